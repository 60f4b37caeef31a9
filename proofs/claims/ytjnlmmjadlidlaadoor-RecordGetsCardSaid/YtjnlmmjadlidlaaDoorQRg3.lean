/-
  A part of the proof of this: RecordGets holds for every input: Get returns the first pair of a name (the card).
-/
import Derived.Deep.RegionHeld3
import Derived.Test.YtjnlmmjadlidlaaDoorQRg2
section
namespace Go.Proofs.YtjnlmmjadlidlaaDoor.PRec
open Go.RowKit Go.Proofs.YtjnlmmjadlidlaaDoorW.PrintWords Go.Proofs.YtjnlmmjadlidlaaDoorW.PrintLast Go.Proofs.YtjnlmmjadlidlaaDoorW.PrintMore
attribute [local go_sem] max2_int min2_int max_two min_two max_three min_three max_four min_four
set_option linter.unusedVariables false
set_option linter.unusedSimpArgs false
mutual
def record_Check.j0 : Nat → Bool → Int → Int → Int → List (S34) → Option (Int)
  | 0, _, _, _, _, _ => none
  | k + 1, x13, x104000, x104001, x104002, x104003 => if x13 = true then (some 31) else (if (x104003.length : Int) > 24 then (some 32) else (record_Check.l0 k x104003 (x104003.length : Int) 0 x104000 x104001 x104002 x104003))
def record_Check.l0 : Nat → List (S34) → Int → Int → Int → Int → Int → List (S34) → Option (Int)
  | 0, _, _, _, _, _, _, _ => none
  | k + 1, x38, x39, x40, x104000, x104001, x104002, x104003 => if x40 < x39 then (if 0 ≤ x40 then (if x40 < (x38.length : Int) then ((value_Check.f k ((rd_T34 x38 x40).f0) ((rd_T34 x38 x40).f1) ((rd_T34 x38 x40).f2) ((rd_T34 x38 x40).f3)).bind fun t107 => (if t107 = 0 then (if x40 ≤ (x104003.length : Int) then ((some (x104003.take (x40 : Int).toNat : List (S34))).bind fun y108 => (record_Check.l1 k x38 x39 x40 y108 (y108.length : Int) 0 x104000 x104001 x104002 x104003 ((rd_T34 x38 x40).f0) ((rd_T34 x38 x40).f1) ((rd_T34 x38 x40).f2) ((rd_T34 x38 x40).f3))) else (none)) else (some t107))) else (none)) else (none)) else (some 0)
def record_Check.l1 : Nat → List (S34) → Int → Int → List (S34) → Int → Int → Int → Int → Int → List (S34) → ByteArray → Int → Int → ByteArray → Option (Int)
  | 0, _, _, _, _, _, _, _, _, _, _, _, _, _, _ => none
  | k + 1, x38, x39, x40, x53, x54, x55, x104000, x104001, x104002, x104003, x107000, x107001, x107002, x107003 => if x55 < x54 then (if 0 ≤ x55 then (if x55 < (x53.length : Int) then (if ((rd_T34 x53 x55).f0).toList = x107000.toList then (some 33) else (record_Check.l1 k x38 x39 x40 x53 x54 (wrap64 (x55 + 1)) x104000 x104001 x104002 x104003 x107000 x107001 x107002 x107003)) else (none)) else (none)) else (record_Check.l0 k x38 x39 (wrap64 (x40 + 1)) x104000 x104001 x104002 x104003)
end
def record_Check.f (k : Nat) (a0_0 : Int) (a0_1 : Int) (a0_2 : Int) (l0_3 : List (S34)) : Option (Int) := (record_Name.f a0_0).bind fun t104 => (if t104.toList = ([] : List UInt8) then (some 30) else (if a0_1 < 0 then (record_Check.j0 k true a0_0 a0_1 a0_2 l0_3) else (if a0_1 > 1099511627776 then (record_Check.j0 k true a0_0 a0_1 a0_2 l0_3) else (if a0_2 < 0 then (record_Check.j0 k true a0_0 a0_1 a0_2 l0_3) else (record_Check.j0 k (decide (a0_2 > 1073741824)) a0_0 a0_1 a0_2 l0_3)))))
theorem record_Check.mono_l : ∀ k, (∀ y0 y1 y2 y3 y4, LeO (record_Check.j0 k y0 y1 y2 y3 y4) (record_Check.j0 (k + 1) y0 y1 y2 y3 y4)) ∧ (∀ y0 y1 y2 y3 y4 y5 y6, LeO (record_Check.l0 k y0 y1 y2 y3 y4 y5 y6) (record_Check.l0 (k + 1) y0 y1 y2 y3 y4 y5 y6)) ∧ (∀ y0 y1 y2 y3 y4 y5 y6 y7 y8 y9 y10 y11 y12 y13, LeO (record_Check.l1 k y0 y1 y2 y3 y4 y5 y6 y7 y8 y9 y10 y11 y12 y13) (record_Check.l1 (k + 1) y0 y1 y2 y3 y4 y5 y6 y7 y8 y9 y10 y11 y12 y13))
  | 0 => ⟨fun _ _ _ _ _ r h => by simp [record_Check.j0] at h, fun _ _ _ _ _ _ _ r h => by simp [record_Check.l0] at h, fun _ _ _ _ _ _ _ _ _ _ _ _ _ _ r h => by simp [record_Check.l1] at h⟩
  | k + 1 => by
    obtain ⟨ih0, ih1, ih2⟩ := record_Check.mono_l k
    refine ⟨?_, ?_, ?_⟩
    · intro y0 y1 y2 y3 y4
      unfold record_Check.j0
      repeat' first
      | (with_reducible exact ih0 _ _ _ _ _)
      | (with_reducible exact ih1 _ _ _ _ _ _ _)
      | (with_reducible exact ih2 _ _ _ _ _ _ _ _ _ _ _ _ _ _)
      | (with_reducible exact value_Check.mono _ _ _ _ _)
      | (with_reducible exact LeO.refl _)
      | (with_reducible exact LeO.none _)
      | (with_reducible refine LeO.ite ?_ ?_)
      | (with_reducible refine LeO.bind ?_ (fun _ => ?_))
      | exact ih0 _ _ _ _ _
      | exact ih1 _ _ _ _ _ _ _
      | exact ih2 _ _ _ _ _ _ _ _ _ _ _ _ _ _
      | exact value_Check.mono _ _ _ _ _
      | exact LeO.none _
      | refine LeO.ite ?_ ?_
      | refine LeO.bind ?_ (fun _ => ?_)
    · intro y0 y1 y2 y3 y4 y5 y6
      unfold record_Check.l0
      repeat' first
      | (with_reducible exact ih0 _ _ _ _ _)
      | (with_reducible exact ih1 _ _ _ _ _ _ _)
      | (with_reducible exact ih2 _ _ _ _ _ _ _ _ _ _ _ _ _ _)
      | (with_reducible exact value_Check.mono _ _ _ _ _)
      | (with_reducible exact LeO.refl _)
      | (with_reducible exact LeO.none _)
      | (with_reducible refine LeO.ite ?_ ?_)
      | (with_reducible refine LeO.bind ?_ (fun _ => ?_))
      | exact ih0 _ _ _ _ _
      | exact ih1 _ _ _ _ _ _ _
      | exact ih2 _ _ _ _ _ _ _ _ _ _ _ _ _ _
      | exact value_Check.mono _ _ _ _ _
      | exact LeO.none _
      | refine LeO.ite ?_ ?_
      | refine LeO.bind ?_ (fun _ => ?_)
    · intro y0 y1 y2 y3 y4 y5 y6 y7 y8 y9 y10 y11 y12 y13
      unfold record_Check.l1
      repeat' first
      | (with_reducible exact ih0 _ _ _ _ _)
      | (with_reducible exact ih1 _ _ _ _ _ _ _)
      | (with_reducible exact ih2 _ _ _ _ _ _ _ _ _ _ _ _ _ _)
      | (with_reducible exact value_Check.mono _ _ _ _ _)
      | (with_reducible exact LeO.refl _)
      | (with_reducible exact LeO.none _)
      | (with_reducible refine LeO.ite ?_ ?_)
      | (with_reducible refine LeO.bind ?_ (fun _ => ?_))
      | exact ih0 _ _ _ _ _
      | exact ih1 _ _ _ _ _ _ _
      | exact ih2 _ _ _ _ _ _ _ _ _ _ _ _ _ _
      | exact value_Check.mono _ _ _ _ _
      | exact LeO.none _
      | refine LeO.ite ?_ ?_
      | refine LeO.bind ?_ (fun _ => ?_)
theorem record_Check.mono : ∀ a0 a1 a2 a3 k, LeO (record_Check.f k a0 a1 a2 a3) (record_Check.f (k + 1) a0 a1 a2 a3) := by
  intro a0 a1 a2 a3 k
  obtain ⟨ih0, ih1, ih2⟩ := record_Check.mono_l k
  unfold record_Check.f
  repeat' first
      | (with_reducible exact ih0 _ _ _ _ _)
      | (with_reducible exact ih1 _ _ _ _ _ _ _)
      | (with_reducible exact ih2 _ _ _ _ _ _ _ _ _ _ _ _ _ _)
      | (with_reducible exact value_Check.mono _ _ _ _ _)
      | (with_reducible exact LeO.refl _)
      | (with_reducible exact LeO.none _)
      | (with_reducible refine LeO.ite ?_ ?_)
      | (with_reducible refine LeO.bind ?_ (fun _ => ?_))
      | exact ih0 _ _ _ _ _
      | exact ih1 _ _ _ _ _ _ _
      | exact ih2 _ _ _ _ _ _ _ _ _ _ _ _ _ _
      | exact value_Check.mono _ _ _ _ _
      | exact LeO.none _
      | refine LeO.ite ?_ ?_
      | refine LeO.bind ?_ (fun _ => ?_)
set_option maxHeartbeats 8000000 in
set_option maxRecDepth 100000 in
theorem record_Check.calls (k : Nat) (a0_0 : Int) (a0_1 : Int) (a0_2 : Int) (A0_3 : Option Addr) (c0_3 : Nat) (l0_3 : List (S34)) (r : Int) (w : World) (hr0_3 : Kd.C k34 w A0_3 l0_3.length l0_3) (hc0_3 : l0_3.length ≤ c0_3) (hG : GL w) (h : record_Check.f k a0_0 a0_1 a0_2 l0_3 = some r) :
    Calls Tryd.prog 72 #[.agg #[.int .i64 a0_0, .int .i64 a0_1, .int .i64 a0_2, .slice A0_3 l0_3.length c0_3]] w fun e w' => e = .returned (.int .i64 r) ∧ Below w.heap.size w w' := by
  have hu50 := Tryd.underlying50
  have hu34 := Tryd.underlying34
  have HR0_3 := Aside0.mk hr0_3
  have HC0_3 := Aside0.mk hc0_3
  clear hr0_3 hc0_3
  have HB := Aside0.mk (Below.refl w.heap.size w)
  have HGL := Aside0.mk hG
  clear hG
  have H : ((record_Name.f a0_0).bind fun t104 => (if t104.toList = ([] : List UInt8) then (some 30) else (if a0_1 < 0 then (record_Check.j0 k true a0_0 a0_1 a0_2 l0_3) else (if a0_1 > 1099511627776 then (record_Check.j0 k true a0_0 a0_1 a0_2 l0_3) else (if a0_2 < 0 then (record_Check.j0 k true a0_0 a0_1 a0_2 l0_3) else (record_Check.j0 k (decide (a0_2 > 1073741824)) a0_0 a0_1 a0_2 l0_3)))))) = some r := h
  clear h
  replace H := Option.bind_eq_some_iff.mp H
  obtain ⟨t104, A20, H⟩ := H
  replace H : (if t104.toList = ([] : List UInt8) then (some 30) else (if a0_1 < 0 then (record_Check.j0 k true a0_0 a0_1 a0_2 l0_3) else (if a0_1 > 1099511627776 then (record_Check.j0 k true a0_0 a0_1 a0_2 l0_3) else (if a0_2 < 0 then (record_Check.j0 k true a0_0 a0_1 a0_2 l0_3) else (record_Check.j0 k (decide (a0_2 > 1073741824)) a0_0 a0_1 a0_2 l0_3))))) = some r := H
  have A2 := Aside0.mk A20
  clear A20
  by_cases c3 : t104.toList = ([] : List UInt8)
  · rw [if_pos c3] at H
    have c3b0 : (t104.toList == ([] : List UInt8)) = true := beq_iff_eq.mpr c3
    have c3b1 : (t104.toList != ([] : List UInt8)) = false := bne_eq_false_iff_eq.mpr c3
    clear c3
    obtain rfl := Option.some.inj H
    go_enter Tryd.func72, Tryd.ntmps72
    go_wp2_with (first | ((with_reducible refine gate_dst (N := 1) rfl ?_); refine box_event ?hg (N := 1) ?hd (cs := #[.int .i64 a0_0, .int .i64 a0_1, .int .i64 a0_2, .slice A0_3 l0_3.length c0_3]) (t := 50) ?hr ?_; (case hd => rfl); (case hg => rfl); (case hr => first | (go_simp; done) | (go_simp; rfl)); intro gb103 hg w4 hbox hb; have n0_ := Aside0.mk (below_step (by repeat (first | (with_reducible first | exact HB.out | apply below_alloc | apply pw_below_drewN | apply below_drew1) | exact HB.out)) hb); have n1_ := Aside0.mk (hbox); have n2_ := Aside0.mk ((by rw [hg]; exact (below_size (by repeat (first | (with_reducible first | exact HB.out | apply below_alloc | apply pw_below_drewN | apply below_drew1) | exact HB.out))) : w.heap.size ≤ gb103)); have n3_ := Aside0.mk ((by rw [hg]; exact (below_size (by repeat (first | (with_reducible first | exact HB.out | apply below_alloc | apply pw_below_drewN | apply below_drew1) | exact HB.out))) : w.heap.size ≤ gb103)); clear HB; have HB := n0_; have BK103 := n1_; have GW103 := n2_; have GE103 := n3_; clear n0_ n1_ n2_ n3_; clear hb hbox hg; have hcz5_0 : w4.cell? ⟨gb103, 0, none⟩ = some (.int .i64 a0_0) := (blk_cell BK103.out 0).trans rfl; have hcz5_1 : w4.cell? ⟨gb103, 1, none⟩ = some (.int .i64 a0_1) := (blk_cell BK103.out 1).trans rfl; have hcz5_2 : w4.cell? ⟨gb103, 2, none⟩ = some (.int .i64 a0_2) := (blk_cell BK103.out 2).trans rfl; have hcz5_3 : w4.cell? ⟨gb103, 3, none⟩ = some (.slice A0_3 l0_3.length c0_3) := (blk_cell BK103.out 3).trans rfl; have hfz5_0 := blk_frozen BK103.out 0; have hfz5_1 := blk_frozen BK103.out 1; have hfz5_2 := blk_frozen BK103.out 2; have hfz5_3 := blk_frozen BK103.out 3) | ((with_reducible refine gate_callee (f := 42) rfl ?_); refine goesL_ (some 11) rfl rfl Tryd.func42 (by kernel_rfl) rfl #[.int .i64 a0_0] rfl (by (try simp only [List.map_toArray, List.map_cons, List.map_nil]); first | done | rfl | (simp only [List.length_drop, List.length_take]; rfl)) ?_; (with_reducible refine (record_Name.calls a0_0 t104 _ ?side1 A2.out).mono ?_); (case side1 => refine GL.below HGL.out ?_; repeat (first | (with_reducible first | exact HB.out | apply below_alloc | apply pw_below_drewN | apply below_drew1 | refine below_set ?_ GE103.out) | exact HB.out)); rintro e w6 ⟨rfl, hb⟩; refine ⟨_, rfl, ?_⟩; have n0_ := Aside0.mk (blk_below (g := gb103) (o := .cells #[.int .i64 a0_0, .int .i64 a0_1, .int .i64 a0_2, .slice A0_3 l0_3.length c0_3] 50 (0, 0)) (by (with_reducible repeat (first | refine blk_drewN ?_ _ | refine blk_drew ?_ | refine blk_alloc ?_ _)); exact BK103.out) hb); have n1_ := Aside0.mk (below_step (by repeat (first | (with_reducible first | exact HB.out | apply below_alloc | apply pw_below_drewN | apply below_drew1 | refine below_set ?_ GE103.out) | exact HB.out)) hb); clear BK103; clear HB; have BK103 := n0_; have HB := n1_; clear n0_ n1_; (try clear hb); (try clear hb2); (try clear hk); (try clear hi)))
    go_ret
    exact ⟨by first | rfl | (simp [errW_none, errW_some] <;> rfl) | (simp [*, errW_none, errW_some] <;> rfl) | (simp only [isEmpty_ne_, isEmpty_eq_]; rfl) | (simp [*, isEmpty_ne_, isEmpty_eq_]; done), by repeat (first | (with_reducible first | exact HB.out | apply below_alloc | apply pw_below_drewN | apply below_drew1 | refine below_set ?_ GE103.out) | exact HB.out)⟩
  · rw [if_neg c3] at H
    have c3b0 : (t104.toList == ([] : List UInt8)) = false := beq_eq_false_iff_ne.mpr c3
    have c3b1 : (t104.toList != ([] : List UInt8)) = true := bne_iff_ne.mpr c3
    have HC7 := Aside0.mk H
    clear H
    go_enter Tryd.func72, Tryd.ntmps72
    go_upto_region 3 with (first | ((with_reducible refine gate_dst (N := 1) rfl ?_); refine box_event ?hg (N := 1) ?hd (cs := #[.int .i64 a0_0, .int .i64 a0_1, .int .i64 a0_2, .slice A0_3 l0_3.length c0_3]) (t := 50) ?hr ?_; (case hd => rfl); (case hg => rfl); (case hr => first | (go_simp; done) | (go_simp; rfl)); intro gb103 hg w8 hbox hb; have n0_ := Aside0.mk (below_step (by repeat (first | (with_reducible first | exact HB.out | apply below_alloc | apply pw_below_drewN | apply below_drew1) | exact HB.out)) hb); have n1_ := Aside0.mk (hbox); have n2_ := Aside0.mk ((by rw [hg]; exact (below_size (by repeat (first | (with_reducible first | exact HB.out | apply below_alloc | apply pw_below_drewN | apply below_drew1) | exact HB.out))) : w.heap.size ≤ gb103)); have n3_ := Aside0.mk ((by rw [hg]; exact (below_size (by repeat (first | (with_reducible first | exact HB.out | apply below_alloc | apply pw_below_drewN | apply below_drew1) | exact HB.out))) : w.heap.size ≤ gb103)); clear HB; have HB := n0_; have BK103 := n1_; have GW103 := n2_; have GE103 := n3_; clear n0_ n1_ n2_ n3_; clear hb hbox hg; have hcz9_0 : w8.cell? ⟨gb103, 0, none⟩ = some (.int .i64 a0_0) := (blk_cell BK103.out 0).trans rfl; have hcz9_1 : w8.cell? ⟨gb103, 1, none⟩ = some (.int .i64 a0_1) := (blk_cell BK103.out 1).trans rfl; have hcz9_2 : w8.cell? ⟨gb103, 2, none⟩ = some (.int .i64 a0_2) := (blk_cell BK103.out 2).trans rfl; have hcz9_3 : w8.cell? ⟨gb103, 3, none⟩ = some (.slice A0_3 l0_3.length c0_3) := (blk_cell BK103.out 3).trans rfl; have hfz9_0 := blk_frozen BK103.out 0; have hfz9_1 := blk_frozen BK103.out 1; have hfz9_2 := blk_frozen BK103.out 2; have hfz9_3 := blk_frozen BK103.out 3) | ((with_reducible refine gate_callee (f := 42) rfl ?_); refine goesL_ (some 11) rfl rfl Tryd.func42 (by kernel_rfl) rfl #[.int .i64 a0_0] rfl (by (try simp only [List.map_toArray, List.map_cons, List.map_nil]); first | done | rfl | (simp only [List.length_drop, List.length_take]; rfl)) ?_; (with_reducible refine (record_Name.calls a0_0 t104 _ ?side1 A2.out).mono ?_); (case side1 => refine GL.below HGL.out ?_; repeat (first | (with_reducible first | exact HB.out | apply below_alloc | apply pw_below_drewN | apply below_drew1 | refine below_set ?_ GE103.out) | exact HB.out)); rintro e w10 ⟨rfl, hb⟩; refine ⟨_, rfl, ?_⟩; have n0_ := Aside0.mk (blk_below (g := gb103) (o := .cells #[.int .i64 a0_0, .int .i64 a0_1, .int .i64 a0_2, .slice A0_3 l0_3.length c0_3] 50 (0, 0)) (by (with_reducible repeat (first | refine blk_drewN ?_ _ | refine blk_drew ?_ | refine blk_alloc ?_ _)); exact BK103.out) hb); have n1_ := Aside0.mk (below_step (by repeat (first | (with_reducible first | exact HB.out | apply below_alloc | apply pw_below_drewN | apply below_drew1 | refine below_set ?_ GE103.out) | exact HB.out)) hb); clear BK103; clear HB; have BK103 := n0_; have HB := n1_; clear n0_ n1_; (try clear hb); (try clear hb2); (try clear hk); (try clear hi)))
    (try simp only [Act.put, List.setIfInBounds_toArray, List.set_cons_zero, List.set_cons_succ])
    go_cut [13] (fun v13 wc => ∃ (kq : Nat) (x13_6 : Bool), v13 = .bool x13_6 ∧ Aside0 (record_Check.j0 kq x13_6 a0_0 a0_1 a0_2 l0_3 = some r) ∧ Aside0 (kq ≤ k) ∧ Aside0 (wc.heap[gb103]? = some (.cells #[.int .i64 a0_0, .int .i64 a0_1, .int .i64 a0_2, (.slice A0_3 l0_3.length c0_3)] 50 (0, 0))) ∧ Aside0 (Below w.heap.size w wc))
    case first =>
      have H := HC7.out
      clear HC7
      by_cases c11 : a0_1 < 0
      · rw [if_pos c11] at H
        have c11b0 : decide (a0_1 < 0) = true := decide_eq_true c11
        clear c11
        (first | rw [c11b0] | (simp only [i64_w, i32_w]; rw [c11b0]) | skip)
        have H' := Aside0.mk H
        clear H
        have hcz12_0 : w10.cell? ⟨gb103, 0, none⟩ = some (.int .i64 a0_0) := (blk_cell BK103.out 0).trans rfl
        have hcz12_1 : w10.cell? ⟨gb103, 1, none⟩ = some (.int .i64 a0_1) := (blk_cell BK103.out 1).trans rfl
        have hcz12_2 : w10.cell? ⟨gb103, 2, none⟩ = some (.int .i64 a0_2) := (blk_cell BK103.out 2).trans rfl
        have hcz12_3 : w10.cell? ⟨gb103, 3, none⟩ = some (.slice A0_3 l0_3.length c0_3) := (blk_cell BK103.out 3).trans rfl
        have hfz12_0 := blk_frozen BK103.out 0
        have hfz12_1 := blk_frozen BK103.out 1
        have hfz12_2 := blk_frozen BK103.out 2
        have hfz12_3 := blk_frozen BK103.out 3
        go_wp2
        go_meet
        case rel => exact ⟨_, (true), (by first | rfl | (simp; done) | (simp [*]; done) | (simp only [isEmpty_ne_]; done)), H', ⟨by first | omega | exact Nat.le_refl _⟩, ⟨by (with_reducible repeat (first | refine blk_drewN ?_ _ | refine blk_drew ?_ | refine blk_alloc ?_ _)); exact BK103.out⟩, ⟨by repeat (first | (with_reducible first | exact HB.out | apply below_alloc | apply pw_below_drewN | apply below_drew1 | refine below_set ?_ GE103.out) | exact HB.out)⟩⟩
      · rw [if_neg c11] at H
        have c11b0 : decide (a0_1 < 0) = false := decide_eq_false c11
        clear c11
        (first | rw [c11b0] | (simp only [i64_w, i32_w]; rw [c11b0]) | skip)
        by_cases c13 : a0_1 > 1099511627776
        · rw [if_pos c13] at H
          have c13b0 : decide (1099511627776 < a0_1) = true := decide_eq_true c13
          clear c13
          have H' := Aside0.mk H
          clear H
          have hcz14_0 : w10.cell? ⟨gb103, 0, none⟩ = some (.int .i64 a0_0) := (blk_cell BK103.out 0).trans rfl
          have hcz14_1 : w10.cell? ⟨gb103, 1, none⟩ = some (.int .i64 a0_1) := (blk_cell BK103.out 1).trans rfl
          have hcz14_2 : w10.cell? ⟨gb103, 2, none⟩ = some (.int .i64 a0_2) := (blk_cell BK103.out 2).trans rfl
          have hcz14_3 : w10.cell? ⟨gb103, 3, none⟩ = some (.slice A0_3 l0_3.length c0_3) := (blk_cell BK103.out 3).trans rfl
          have hfz14_0 := blk_frozen BK103.out 0
          have hfz14_1 := blk_frozen BK103.out 1
          have hfz14_2 := blk_frozen BK103.out 2
          have hfz14_3 := blk_frozen BK103.out 3
          go_wp2
          go_meet
          case rel => exact ⟨_, (true), (by first | rfl | (simp; done) | (simp [*]; done) | (simp only [isEmpty_ne_]; done)), H', ⟨by first | omega | exact Nat.le_refl _⟩, ⟨by (with_reducible repeat (first | refine blk_drewN ?_ _ | refine blk_drew ?_ | refine blk_alloc ?_ _)); exact BK103.out⟩, ⟨by repeat (first | (with_reducible first | exact HB.out | apply below_alloc | apply pw_below_drewN | apply below_drew1 | refine below_set ?_ GE103.out) | exact HB.out)⟩⟩
        · rw [if_neg c13] at H
          have c13b0 : decide (1099511627776 < a0_1) = false := decide_eq_false c13
          clear c13
          by_cases c15 : a0_2 < 0
          · rw [if_pos c15] at H
            have c15b0 : decide (a0_2 < 0) = true := decide_eq_true c15
            clear c15
            have H' := Aside0.mk H
            clear H
            have hcz16_0 : w10.cell? ⟨gb103, 0, none⟩ = some (.int .i64 a0_0) := (blk_cell BK103.out 0).trans rfl
            have hcz16_1 : w10.cell? ⟨gb103, 1, none⟩ = some (.int .i64 a0_1) := (blk_cell BK103.out 1).trans rfl
            have hcz16_2 : w10.cell? ⟨gb103, 2, none⟩ = some (.int .i64 a0_2) := (blk_cell BK103.out 2).trans rfl
            have hcz16_3 : w10.cell? ⟨gb103, 3, none⟩ = some (.slice A0_3 l0_3.length c0_3) := (blk_cell BK103.out 3).trans rfl
            have hfz16_0 := blk_frozen BK103.out 0
            have hfz16_1 := blk_frozen BK103.out 1
            have hfz16_2 := blk_frozen BK103.out 2
            have hfz16_3 := blk_frozen BK103.out 3
            go_wp2
            go_meet
            case rel => exact ⟨_, (true), (by first | rfl | (simp; done) | (simp [*]; done) | (simp only [isEmpty_ne_]; done)), H', ⟨by first | omega | exact Nat.le_refl _⟩, ⟨by (with_reducible repeat (first | refine blk_drewN ?_ _ | refine blk_drew ?_ | refine blk_alloc ?_ _)); exact BK103.out⟩, ⟨by repeat (first | (with_reducible first | exact HB.out | apply below_alloc | apply pw_below_drewN | apply below_drew1 | refine below_set ?_ GE103.out) | exact HB.out)⟩⟩
          · rw [if_neg c15] at H
            have c15b0 : decide (a0_2 < 0) = false := decide_eq_false c15
            clear c15
            have H' := Aside0.mk H
            clear H
            have hcz17_0 : w10.cell? ⟨gb103, 0, none⟩ = some (.int .i64 a0_0) := (blk_cell BK103.out 0).trans rfl
            have hcz17_1 : w10.cell? ⟨gb103, 1, none⟩ = some (.int .i64 a0_1) := (blk_cell BK103.out 1).trans rfl
            have hcz17_2 : w10.cell? ⟨gb103, 2, none⟩ = some (.int .i64 a0_2) := (blk_cell BK103.out 2).trans rfl
            have hcz17_3 : w10.cell? ⟨gb103, 3, none⟩ = some (.slice A0_3 l0_3.length c0_3) := (blk_cell BK103.out 3).trans rfl
            have hfz17_0 := blk_frozen BK103.out 0
            have hfz17_1 := blk_frozen BK103.out 1
            have hfz17_2 := blk_frozen BK103.out 2
            have hfz17_3 := blk_frozen BK103.out 3
            go_wp2
            go_meet
            case rel => exact ⟨_, (decide (a0_2 > 1073741824)), (by first | rfl | (simp; done) | (simp [*]; done) | (simp only [isEmpty_ne_]; done)), H', ⟨by first | omega | exact Nat.le_refl _⟩, ⟨by (with_reducible repeat (first | refine blk_drewN ?_ _ | refine blk_drew ?_ | refine blk_alloc ?_ _)); exact BK103.out⟩, ⟨by repeat (first | (with_reducible first | exact HB.out | apply below_alloc | apply pw_below_drewN | apply below_drew1 | refine below_set ?_ GE103.out) | exact HB.out)⟩⟩
    case rest =>
      clear HC7
      try clear c1
      try clear p2
      try clear c3
      try clear c3b0
      try clear c3b1
      try clear c4
      try clear c7
      try clear c11
      try clear c11b0
      try clear c13
      try clear c13b0
      try clear c15
      try clear c15b0
      try clear hcz12_0
      try clear hcz12_1
      try clear hcz12_2
      try clear hcz12_3
      try clear hcz14_0
      try clear hcz14_1
      try clear hcz14_2
      try clear hcz14_3
      try clear hcz16_0
      try clear hcz16_1
      try clear hcz16_2
      try clear hcz16_3
      try clear hcz17_0
      try clear hcz17_1
      try clear hcz17_2
      try clear hcz17_3
      try clear hcz5_0
      try clear hcz5_1
      try clear hcz5_2
      try clear hcz5_3
      try clear hcz9_0
      try clear hcz9_1
      try clear hcz9_2
      try clear hcz9_3
      try clear hfz12_0
      try clear hfz12_1
      try clear hfz12_2
      try clear hfz12_3
      try clear hfz14_0
      try clear hfz14_1
      try clear hfz14_2
      try clear hfz14_3
      try clear hfz16_0
      try clear hfz16_1
      try clear hfz16_2
      try clear hfz16_3
      try clear hfz17_0
      try clear hfz17_1
      try clear hfz17_2
      try clear hfz17_3
      try clear hfz5_0
      try clear hfz5_1
      try clear hfz5_2
      try clear hfz5_3
      try clear hfz9_0
      try clear hfz9_1
      try clear hfz9_2
      try clear hfz9_3
      obtain ⟨kq, x13_6, rfl, HA, HJ6, BK103, HB⟩ := hcut
      cases kq with
      | zero => exact absurd HA.out (by simp [record_Check.j0])
      | succ kj6 =>
        have H := HA.out
        clear HA
        simp only [record_Check.j0] at H
        by_cases c18 : x13_6 = true
        · subst c18
          have H1 : (some 31) = some r := by rw [if_pos rfl] at H; exact H
          clear H
          have H := H1
          clear H1
          obtain rfl := Option.some.inj H
          go_wp2
          go_ret
          exact ⟨by first | rfl | (simp [errW_none, errW_some] <;> rfl) | (simp [*, errW_none, errW_some] <;> rfl) | (simp only [isEmpty_ne_, isEmpty_eq_]; rfl) | (simp [*, isEmpty_ne_, isEmpty_eq_]; done), by repeat (first | (with_reducible first | exact HB.out | apply below_alloc | apply pw_below_drewN | apply below_drew1 | refine below_set ?_ GE103.out) | exact HB.out)⟩
        · replace c18 := Bool.eq_false_iff.mpr c18
          subst c18
          have H1 : (if (l0_3.length : Int) > 24 then (some 32) else (record_Check.l0 kj6 l0_3 (l0_3.length : Int) 0 a0_0 a0_1 a0_2 l0_3)) = some r := by rw [if_neg (show ¬ (false = true) by decide)] at H; exact H
          clear H
          have H := H1
          clear H1
          by_cases c19 : (l0_3.length : Int) > 24
          · rw [if_pos c19] at H
            have c19b0 : decide (24 < (l0_3.length : Int)) = true := decide_eq_true c19
            have c19b1 : decide (24 < l0_3.length) = true := decide_eq_true (by omega)
            clear c19
            obtain rfl := Option.some.inj H
            have hcz20_0 : wc.cell? ⟨gb103, 0, none⟩ = some (.int .i64 a0_0) := (blk_cell BK103.out 0).trans rfl
            have hcz20_1 : wc.cell? ⟨gb103, 1, none⟩ = some (.int .i64 a0_1) := (blk_cell BK103.out 1).trans rfl
            have hcz20_2 : wc.cell? ⟨gb103, 2, none⟩ = some (.int .i64 a0_2) := (blk_cell BK103.out 2).trans rfl
            have hcz20_3 : wc.cell? ⟨gb103, 3, none⟩ = some (.slice A0_3 l0_3.length c0_3) := (blk_cell BK103.out 3).trans rfl
            have hfz20_0 := blk_frozen BK103.out 0
            have hfz20_1 := blk_frozen BK103.out 1
            have hfz20_2 := blk_frozen BK103.out 2
            have hfz20_3 := blk_frozen BK103.out 3
            go_wp2
            go_ret
            exact ⟨by first | rfl | (simp [errW_none, errW_some] <;> rfl) | (simp [*, errW_none, errW_some] <;> rfl) | (simp only [isEmpty_ne_, isEmpty_eq_]; rfl) | (simp [*, isEmpty_ne_, isEmpty_eq_]; done), by repeat (first | (with_reducible first | exact HB.out | apply below_alloc | apply pw_below_drewN | apply below_drew1 | refine below_set ?_ GE103.out) | exact HB.out)⟩
          · rw [if_neg c19] at H
            have c19b0 : decide (24 < (l0_3.length : Int)) = false := decide_eq_false c19
            have c19b1 : decide (24 < l0_3.length) = false := decide_eq_false (by omega)
            clear c19
            have H' := Aside0.mk H
            clear H
            have hcz21_0 : wc.cell? ⟨gb103, 0, none⟩ = some (.int .i64 a0_0) := (blk_cell BK103.out 0).trans rfl
            have hcz21_1 : wc.cell? ⟨gb103, 1, none⟩ = some (.int .i64 a0_1) := (blk_cell BK103.out 1).trans rfl
            have hcz21_2 : wc.cell? ⟨gb103, 2, none⟩ = some (.int .i64 a0_2) := (blk_cell BK103.out 2).trans rfl
            have hcz21_3 : wc.cell? ⟨gb103, 3, none⟩ = some (.slice A0_3 l0_3.length c0_3) := (blk_cell BK103.out 3).trans rfl
            have hfz21_0 := blk_frozen BK103.out 0
            have hfz21_1 := blk_frozen BK103.out 1
            have hfz21_2 := blk_frozen BK103.out 2
            have hfz21_3 := blk_frozen BK103.out 3
            go_wp2
            go_loopg [40] kj6 (fun kq v40 w' => ∃ (x40_2 : Int), v40 = .int .i64 x40_2 ∧ Aside0 (record_Check.l0 kq l0_3 (l0_3.length : Int) x40_2 a0_0 a0_1 a0_2 l0_3 = some r) ∧ Aside0 (kq ≤ kj6) ∧ Aside0 (w'.heap[gb103]? = some (.cells #[.int .i64 a0_0, .int .i64 a0_1, .int .i64 a0_2, (.slice A0_3 l0_3.length c0_3)] 50 (0, 0))) ∧ Aside0 (Below w.heap.size w w'))
            case atStart => exact ⟨(0), (by first | rfl | (simp; done) | (simp [*]; done) | (simp only [isEmpty_ne_]; done)), H', ⟨Nat.le_refl _⟩, ⟨by (with_reducible repeat (first | refine blk_drewN ?_ _ | refine blk_drew ?_ | refine blk_alloc ?_ _)); exact BK103.out⟩, ⟨by repeat (first | (with_reducible first | exact HB.out | apply below_alloc | apply pw_below_drewN | apply below_drew1 | refine below_set ?_ GE103.out) | exact HB.out)⟩⟩
            case round =>
              clear H'
              try clear c1
              try clear p2
              try clear c3
              try clear c3b0
              try clear c3b1
              try clear c4
              try clear c7
              try clear c11
              try clear c11b0
              try clear c13
              try clear c13b0
              try clear c15
              try clear c15b0
              try clear c18
              try clear c19
              try clear c19b0
              try clear c19b1
              try clear hcz12_0
              try clear hcz12_1
              try clear hcz12_2
              try clear hcz12_3
              try clear hcz14_0
              try clear hcz14_1
              try clear hcz14_2
              try clear hcz14_3
              try clear hcz16_0
              try clear hcz16_1
              try clear hcz16_2
              try clear hcz16_3
              try clear hcz17_0
              try clear hcz17_1
              try clear hcz17_2
              try clear hcz17_3
              try clear hcz20_0
              try clear hcz20_1
              try clear hcz20_2
              try clear hcz20_3
              try clear hcz21_0
              try clear hcz21_1
              try clear hcz21_2
              try clear hcz21_3
              try clear hcz5_0
              try clear hcz5_1
              try clear hcz5_2
              try clear hcz5_3
              try clear hcz9_0
              try clear hcz9_1
              try clear hcz9_2
              try clear hcz9_3
              try clear hfz12_0
              try clear hfz12_1
              try clear hfz12_2
              try clear hfz12_3
              try clear hfz14_0
              try clear hfz14_1
              try clear hfz14_2
              try clear hfz14_3
              try clear hfz16_0
              try clear hfz16_1
              try clear hfz16_2
              try clear hfz16_3
              try clear hfz17_0
              try clear hfz17_1
              try clear hfz17_2
              try clear hfz17_3
              try clear hfz20_0
              try clear hfz20_1
              try clear hfz20_2
              try clear hfz20_3
              try clear hfz21_0
              try clear hfz21_1
              try clear hfz21_2
              try clear hfz21_3
              try clear hfz5_0
              try clear hfz5_1
              try clear hfz5_2
              try clear hfz5_3
              try clear hfz9_0
              try clear hfz9_1
              try clear hfz9_2
              try clear hfz9_3
              try clear p2
              obtain ⟨x40_2, rfl, HA, HK2, BK103, HB⟩ := hrel
              cases gk with
              | zero => exact absurd HA.out (by simp [record_Check.l0])
              | succ k2 =>
                have H := HA.out
                clear HA
                simp only [record_Check.l0] at H
                by_cases c22 : x40_2 < (l0_3.length : Int)
                · rw [if_pos c22] at H
                  have c22b0 : decide (x40_2 < (l0_3.length : Int)) = true := decide_eq_true c22
                  clear c22
                  by_cases c23 : 0 ≤ x40_2
                  · rw [if_pos c23] at H
                    have c23b0 : decide (0 ≤ x40_2) = true := decide_eq_true c23
                    clear c23
                    by_cases c24 : x40_2 < (l0_3.length : Int)
                    · rw [if_pos c24] at H
                      have c24b0 : decide (x40_2 < (l0_3.length : Int)) = true := decide_eq_true c24
                      clear c24
                      replace H := Option.bind_eq_some_iff.mp H
                      obtain ⟨t107, A250, H⟩ := H
                      replace H : (if t107 = 0 then (if x40_2 ≤ (l0_3.length : Int) then ((some (l0_3.take (x40_2 : Int).toNat : List (S34))).bind fun y108 => (record_Check.l1 k2 l0_3 (l0_3.length : Int) x40_2 y108 (y108.length : Int) 0 a0_0 a0_1 a0_2 l0_3 ((rd_T34 l0_3 x40_2).f0) ((rd_T34 l0_3 x40_2).f1) ((rd_T34 l0_3 x40_2).f2) ((rd_T34 l0_3 x40_2).f3))) else (none)) else (some t107)) = some r := H
                      have A25 := Aside0.mk A250
                      clear A250
                      by_cases c26 : t107 = 0
                      · rw [if_pos c26] at H
                        have c26b0 : (t107 == 0) = true := beq_iff_eq.mpr c26
                        have c26b1 : (t107 != 0) = false := bne_eq_false_iff_eq.mpr c26
                        clear c26
                        have c27b0 := eq_true (of_decide_eq_true (by first | (with_reducible assumption) | assumption) : 0 ≤ x40_2)
                        by_cases c28 : x40_2 ≤ (l0_3.length : Int)
                        · rw [if_pos c28] at H
                          have c28b0 := eq_true c28
                          have c28b1 : decide (x40_2 ≤ (l0_3.length : Int)) = true := decide_eq_true c28
                          clear c28
                          obtain ⟨y108, hy108⟩ : ∃ y_ : List (S34), y_ = (l0_3.take (x40_2 : Int).toNat) := ⟨_, rfl⟩
                          replace H : (record_Check.l1 k2 l0_3 (l0_3.length : Int) x40_2 y108 (y108.length : Int) 0 a0_0 a0_1 a0_2 l0_3 ((rd_T34 l0_3 x40_2).f0) ((rd_T34 l0_3 x40_2).f1) ((rd_T34 l0_3 x40_2).f2) ((rd_T34 l0_3 x40_2).f3)) = some r := by first | (rw [hy108]; with_reducible exact H) | (have H2_ := (Option.bind_some _ _).symm.trans H; rw [hy108]; with_reducible exact H2_) | (have H2_ := (Option.bind_some _ _).symm.trans H; with_reducible exact H2_) | with_reducible exact H | (rw [hy108]; exact H) | exact H
                          have Ny108 := Aside0.mk hy108
                          clear hy108
                          have H' := Aside0.mk H
                          clear H
                          have p105 : 0 ≤ (x40_2 : Int) := of_decide_eq_true (by first | (with_reducible assumption) | assumption)
                          have q105 : x40_2 < (l0_3.length : Int) := of_decide_eq_true (by first | (with_reducible assumption) | assumption)
                          obtain ⟨ad105, e105, hx105_0, hx105_1, hx105_2, hx105_3⟩ := at_T34 HR0_3.out x40_2 p105 q105
                          cases e105
                          replace hx105_0 := (HB.out.cell (World.block_lt_of_cell? w _ hx105_0)).trans hx105_0
                          replace hx105_1 := (HB.out.cell (World.block_lt_of_cell? w _ hx105_1)).trans hx105_1
                          replace hx105_2 := (HB.out.cell (World.block_lt_of_cell? w _ hx105_2)).trans hx105_2
                          replace hx105_3 := (HB.out.cell (World.block_lt_of_cell? w _ hx105_3)).trans hx105_3
                          replace p105 := eq_true p105
                          replace q105 := eq_true q105
                          go_wp2_with (first | ((with_reducible refine gate_dst (N := 4) rfl ?_); refine box_event ?hg (N := 4) ?hd (cs := #[.string (⟨#[]⟩ : ByteArray), .int .i64 0, .int .i64 0, .string (⟨#[]⟩ : ByteArray)]) (t := 34) ?hr ?_; (case hd => rfl); (case hg => rfl); (case hr => first | (go_simp; done) | (go_simp; rfl)); intro gb106 hg w29 hbox hb; have n0_ := Aside0.mk (blk_below (g := gb103) (o := .cells #[.int .i64 a0_0, .int .i64 a0_1, .int .i64 a0_2, .slice (some ad105) l0_3.length c0_3] 50 (0, 0)) (by (with_reducible repeat (first | refine blk_drewN ?_ _ | refine blk_drew ?_ | refine blk_alloc ?_ _)); exact BK103.out) hb); have n1_ := Aside0.mk (below_step (by repeat (first | (with_reducible first | exact HB.out | apply below_alloc | apply pw_below_drewN | apply below_drew1 | refine below_set ?_ GE103.out) | exact HB.out)) hb); have n2_ := Aside0.mk (hbox); have n3_ := Aside0.mk ((by rw [hg]; exact (below_size (by repeat (first | (with_reducible first | exact HB.out | apply below_alloc | apply pw_below_drewN | apply below_drew1 | refine below_set ?_ GE103.out) | exact HB.out))) : w.heap.size ≤ gb106)); have n4_ := Aside0.mk ((by rw [hg]; exact (below_size (by repeat (first | (with_reducible first | exact HB.out | apply below_alloc | apply pw_below_drewN | apply below_drew1 | refine below_set ?_ GE103.out) | exact HB.out))) : w.heap.size ≤ gb106)); have n5_ := Aside0.mk ((by rw [hg]; exact Nat.ne_of_lt (blk_lt (g := gb103) (o := .cells #[.int .i64 a0_0, .int .i64 a0_1, .int .i64 a0_2, .slice (some ad105) l0_3.length c0_3] 50 (0, 0)) (by (with_reducible repeat (first | refine blk_drewN ?_ _ | refine blk_drew ?_ | refine blk_alloc ?_ _)); exact BK103.out)) : gb103 ≠ gb106)); have n6_ := Aside0.mk ((by rw [hg]; exact Nat.ne_of_gt (blk_lt (g := gb103) (o := .cells #[.int .i64 a0_0, .int .i64 a0_1, .int .i64 a0_2, .slice (some ad105) l0_3.length c0_3] 50 (0, 0)) (by (with_reducible repeat (first | refine blk_drewN ?_ _ | refine blk_drew ?_ | refine blk_alloc ?_ _)); exact BK103.out)) : gb106 ≠ gb103)); clear BK103; clear HB; have BK103 := n0_; have HB := n1_; have BK106 := n2_; have GW106 := n3_; have GE106 := n4_; have NB103_106 := n5_; have NB106_103 := n6_; clear n0_ n1_ n2_ n3_ n4_ n5_ n6_; clear hb hbox hg; have hnb30 := NB106_103.out; have hnc30 := NB103_106.out; have hcz31_0 : w29.cell? ⟨gb106, 0, none⟩ = some (.string (⟨#[]⟩ : ByteArray)) := (blk_cell BK106.out 0).trans rfl; have hcz31_1 : w29.cell? ⟨gb106, 1, none⟩ = some (.int .i64 0) := (blk_cell BK106.out 1).trans rfl; have hcz31_2 : w29.cell? ⟨gb106, 2, none⟩ = some (.int .i64 0) := (blk_cell BK106.out 2).trans rfl; have hcz31_3 : w29.cell? ⟨gb106, 3, none⟩ = some (.string (⟨#[]⟩ : ByteArray)) := (blk_cell BK106.out 3).trans rfl; have hfz31_0 := blk_frozen BK106.out 0; have hfz31_1 := blk_frozen BK106.out 1; have hfz31_2 := blk_frozen BK106.out 2; have hfz31_3 := blk_frozen BK106.out 3) | ((with_reducible refine gate_callee (f := 116) rfl ?_); refine goesL_ (some 46) rfl rfl Tryd.func116 (by kernel_rfl) rfl #[.agg #[.string ((rd_T34 l0_3 x40_2).f0), .int .i64 ((rd_T34 l0_3 x40_2).f1), .int .i64 ((rd_T34 l0_3 x40_2).f2), .string ((rd_T34 l0_3 x40_2).f3)]] rfl (by (try simp only [List.map_toArray, List.map_cons, List.map_nil]); first | done | rfl | (simp only [List.length_drop, List.length_take]; rfl)) ?_; (with_reducible refine (value_Check.calls k2 ((rd_T34 l0_3 x40_2).f0) ((rd_T34 l0_3 x40_2).f1) ((rd_T34 l0_3 x40_2).f2) ((rd_T34 l0_3 x40_2).f3) t107 _ A25.out).mono ?_); rintro e w32 ⟨rfl, hb⟩; refine ⟨_, rfl, ?_⟩; have n0_ := Aside0.mk (blk_below (g := gb103) (o := .cells #[.int .i64 a0_0, .int .i64 a0_1, .int .i64 a0_2, .slice (some ad105) l0_3.length c0_3] 50 (0, 0)) (by (with_reducible repeat (first | refine blk_drewN ?_ _ | refine blk_drew ?_ | refine blk_alloc ?_ _)); refine blk_far ?_ NB103_106.out _; (with_reducible repeat (first | refine blk_drewN ?_ _ | refine blk_drew ?_ | refine blk_alloc ?_ _)); refine blk_far ?_ NB103_106.out _; (with_reducible repeat (first | refine blk_drewN ?_ _ | refine blk_drew ?_ | refine blk_alloc ?_ _)); refine blk_far ?_ NB103_106.out _; (with_reducible repeat (first | refine blk_drewN ?_ _ | refine blk_drew ?_ | refine blk_alloc ?_ _)); refine blk_far ?_ NB103_106.out _; (with_reducible repeat (first | refine blk_drewN ?_ _ | refine blk_drew ?_ | refine blk_alloc ?_ _)); exact BK103.out) hb); have n1_ := Aside0.mk (blk_below (g := gb106) (o := .cells #[.string ((rd_T34 l0_3 x40_2).f0), .int .i64 ((rd_T34 l0_3 x40_2).f1), .int .i64 ((rd_T34 l0_3 x40_2).f2), .string ((rd_T34 l0_3 x40_2).f3)] 34 (0, 0)) (by (with_reducible repeat (first | refine blk_drewN ?_ _ | refine blk_drew ?_ | refine blk_alloc ?_ _)); refine blk_put (cs := #[.string ((rd_T34 l0_3 x40_2).f0), .int .i64 ((rd_T34 l0_3 x40_2).f1), .int .i64 ((rd_T34 l0_3 x40_2).f2), .string (⟨#[]⟩ : ByteArray)]) ?_ 3 _ rfl; (with_reducible repeat (first | refine blk_drewN ?_ _ | refine blk_drew ?_ | refine blk_alloc ?_ _)); refine blk_put (cs := #[.string ((rd_T34 l0_3 x40_2).f0), .int .i64 ((rd_T34 l0_3 x40_2).f1), .int .i64 0, .string (⟨#[]⟩ : ByteArray)]) ?_ 2 _ rfl; (with_reducible repeat (first | refine blk_drewN ?_ _ | refine blk_drew ?_ | refine blk_alloc ?_ _)); refine blk_put (cs := #[.string ((rd_T34 l0_3 x40_2).f0), .int .i64 0, .int .i64 0, .string (⟨#[]⟩ : ByteArray)]) ?_ 1 _ rfl; (with_reducible repeat (first | refine blk_drewN ?_ _ | refine blk_drew ?_ | refine blk_alloc ?_ _)); refine blk_put (cs := #[.string (⟨#[]⟩ : ByteArray), .int .i64 0, .int .i64 0, .string (⟨#[]⟩ : ByteArray)]) ?_ 0 _ rfl; (with_reducible repeat (first | refine blk_drewN ?_ _ | refine blk_drew ?_ | refine blk_alloc ?_ _)); exact BK106.out) hb); have n2_ := Aside0.mk (below_step (by repeat (first | (with_reducible first | exact HB.out | apply below_alloc | apply pw_below_drewN | apply below_drew1 | refine below_set ?_ GE103.out | refine below_set ?_ GE106.out) | exact HB.out)) hb); clear BK103; clear BK106; clear HB; have BK103 := n0_; have BK106 := n1_; have HB := n2_; clear n0_ n1_ n2_; (try clear hb); (try clear hb2); (try clear hk); (try clear hi); have hcz33_0 : w32.cell? ⟨gb103, 0, none⟩ = some (.int .i64 a0_0) := (blk_cell BK103.out 0).trans rfl; have hcz33_1 : w32.cell? ⟨gb103, 1, none⟩ = some (.int .i64 a0_1) := (blk_cell BK103.out 1).trans rfl; have hcz33_2 : w32.cell? ⟨gb103, 2, none⟩ = some (.int .i64 a0_2) := (blk_cell BK103.out 2).trans rfl; have hcz33_3 : w32.cell? ⟨gb103, 3, none⟩ = some (.slice (some ad105) l0_3.length c0_3) := (blk_cell BK103.out 3).trans rfl; have hfz33_0 := blk_frozen BK103.out 0; have hfz33_1 := blk_frozen BK103.out 1; have hfz33_2 := blk_frozen BK103.out 2; have hfz33_3 := blk_frozen BK103.out 3; have q34 : (x40_2 : Int) ≤ ((l0_3.length : Int) : Int) := of_decide_eq_true (by first | (with_reducible assumption) | assumption); obtain ⟨i034, hi034, _, hsz34, _⟩ := info_parts info34; have hroom34 : l0_3.length ≤ c0_3 := HC0_3.out; have hC34 : Kd.C k34 _ (some ad105) l0_3.length l0_3 := HR0_3.out; have hcut34 := cut_to (P := Tryd.prog) 35 34 .i64 Tryd.underlying35 hi034 (some ad105) l0_3.length c0_3 x40_2 (of_decide_eq_true (by first | (with_reducible assumption) | assumption)) q34 hroom34; have hr34 := Kd.C_take (m := (x40_2 : Int).toNat) hC34 (by omega); have hy34 : y108.length = (x40_2 : Int).toNat := (by rw [Ny108.out, List.length_take]; omega); rw [← Ny108.out] at hr34; rw [← hy34] at hcut34; have HR111 := Aside0.mk hr34; have HC111 := Aside0.mk (show y108.length ≤ c0_3 from by omega); clear hr34 hC34 hroom34 hi034 hsz34; have KY34 := Aside0.mk hy34; clear hy34; replace q34 := eq_true q34))
                          go_loopg [55] k2 (fun kq v55 w' => ∃ (x55_3 : Int), v55 = .int .i64 x55_3 ∧ Aside0 (record_Check.l1 kq l0_3 (l0_3.length : Int) x40_2 y108 (y108.length : Int) x55_3 a0_0 a0_1 a0_2 l0_3 ((rd_T34 l0_3 x40_2).f0) ((rd_T34 l0_3 x40_2).f1) ((rd_T34 l0_3 x40_2).f2) ((rd_T34 l0_3 x40_2).f3) = some r) ∧ Aside0 (kq ≤ k2) ∧ Aside0 (w'.heap[gb103]? = some (.cells #[.int .i64 a0_0, .int .i64 a0_1, .int .i64 a0_2, (.slice (some ad105) l0_3.length c0_3)] 50 (0, 0))) ∧ Aside0 (w'.heap[gb106]? = some (.cells #[.string ((rd_T34 l0_3 x40_2).f0), .int .i64 ((rd_T34 l0_3 x40_2).f1), .int .i64 ((rd_T34 l0_3 x40_2).f2), .string ((rd_T34 l0_3 x40_2).f3)] 34 (0, 0))) ∧ Aside0 (Below w.heap.size w w'))
                          case atStart => exact ⟨(0), (by first | rfl | (simp; done) | (simp [*]; done) | (simp only [isEmpty_ne_]; done)), H', ⟨Nat.le_refl _⟩, ⟨by (with_reducible repeat (first | refine blk_drewN ?_ _ | refine blk_drew ?_ | refine blk_alloc ?_ _)); exact BK103.out⟩, ⟨by (with_reducible repeat (first | refine blk_drewN ?_ _ | refine blk_drew ?_ | refine blk_alloc ?_ _)); exact BK106.out⟩, ⟨by repeat (first | (with_reducible first | exact HB.out | apply below_alloc | apply pw_below_drewN | apply below_drew1 | refine below_set ?_ GE103.out | refine below_set ?_ GE106.out) | exact HB.out)⟩⟩
                          case round =>
                            clear H'
                            try clear c1
                            try clear p1
                            try clear q1
                            try clear hx1
                            try clear c2
                            try clear p2
                            try clear c3
                            try clear c3b0
                            try clear c3b1
                            try clear q3
                            try clear c4
                            try clear c7
                            try clear p10
                            try clear q10
                            try clear hx10
                            try clear c11
                            try clear c11b0
                            try clear c13
                            try clear c13b0
                            try clear c15
                            try clear c15b0
                            try clear c18
                            try clear c19
                            try clear c19b0
                            try clear c19b1
                            try clear c22
                            try clear c22b0
                            try clear c23
                            try clear c23b0
                            try clear c24
                            try clear c24b0
                            try clear c26
                            try clear c26b0
                            try clear c26b1
                            try clear c27
                            try clear c27b0
                            try clear c28
                            try clear c28b0
                            try clear c28b1
                            try clear c30
                            try clear q34
                            try clear hcz12_0
                            try clear hcz12_1
                            try clear hcz12_2
                            try clear hcz12_3
                            try clear hcz14_0
                            try clear hcz14_1
                            try clear hcz14_2
                            try clear hcz14_3
                            try clear hcz16_0
                            try clear hcz16_1
                            try clear hcz16_2
                            try clear hcz16_3
                            try clear hcz17_0
                            try clear hcz17_1
                            try clear hcz17_2
                            try clear hcz17_3
                            try clear hcz20_0
                            try clear hcz20_1
                            try clear hcz20_2
                            try clear hcz20_3
                            try clear hcz21_0
                            try clear hcz21_1
                            try clear hcz21_2
                            try clear hcz21_3
                            try clear hcz31_0
                            try clear hcz31_1
                            try clear hcz31_2
                            try clear hcz31_3
                            try clear hcz33_0
                            try clear hcz33_1
                            try clear hcz33_2
                            try clear hcz33_3
                            try clear hcz5_0
                            try clear hcz5_1
                            try clear hcz5_2
                            try clear hcz5_3
                            try clear hcz9_0
                            try clear hcz9_1
                            try clear hcz9_2
                            try clear hcz9_3
                            try clear hfz12_0
                            try clear hfz12_1
                            try clear hfz12_2
                            try clear hfz12_3
                            try clear hfz14_0
                            try clear hfz14_1
                            try clear hfz14_2
                            try clear hfz14_3
                            try clear hfz16_0
                            try clear hfz16_1
                            try clear hfz16_2
                            try clear hfz16_3
                            try clear hfz17_0
                            try clear hfz17_1
                            try clear hfz17_2
                            try clear hfz17_3
                            try clear hfz20_0
                            try clear hfz20_1
                            try clear hfz20_2
                            try clear hfz20_3
                            try clear hfz21_0
                            try clear hfz21_1
                            try clear hfz21_2
                            try clear hfz21_3
                            try clear hfz31_0
                            try clear hfz31_1
                            try clear hfz31_2
                            try clear hfz31_3
                            try clear hfz33_0
                            try clear hfz33_1
                            try clear hfz33_2
                            try clear hfz33_3
                            try clear hfz5_0
                            try clear hfz5_1
                            try clear hfz5_2
                            try clear hfz5_3
                            try clear hfz9_0
                            try clear hfz9_1
                            try clear hfz9_2
                            try clear hfz9_3
                            try clear hx105_0
                            try clear hx105_1
                            try clear hx105_2
                            try clear hx105_3
                            try clear p105
                            try clear p2
                            try clear q105
                            try clear q34
                            obtain ⟨x55_3, rfl, HA, HK3, BK103, BK106, HB⟩ := hrel
                            cases gk with
                            | zero => exact absurd HA.out (by simp [record_Check.l1])
                            | succ k3 =>
                              have H := HA.out
                              clear HA
                              simp only [record_Check.l1] at H
                              by_cases c35 : x55_3 < (y108.length : Int)
                              · rw [if_pos c35] at H
                                have c35b0 : decide (x55_3 < (y108.length : Int)) = true := decide_eq_true c35
                                clear c35
                                by_cases c36 : 0 ≤ x55_3
                                · rw [if_pos c36] at H
                                  have c36b0 : decide (0 ≤ x55_3) = true := decide_eq_true c36
                                  clear c36
                                  by_cases c37 : x55_3 < (y108.length : Int)
                                  · rw [if_pos c37] at H
                                    have c37b0 : decide (x55_3 < (y108.length : Int)) = true := decide_eq_true c37
                                    clear c37
                                    by_cases c38 : ((rd_T34 y108 x55_3).f0).toList = ((rd_T34 l0_3 x40_2).f0).toList
                                    · rw [if_pos c38] at H
                                      have c38b0 : (((rd_T34 y108 x55_3).f0).toList == ((rd_T34 l0_3 x40_2).f0).toList) = true := beq_iff_eq.mpr c38
                                      have c38b1 : (((rd_T34 y108 x55_3).f0).toList != ((rd_T34 l0_3 x40_2).f0).toList) = false := bne_eq_false_iff_eq.mpr c38
                                      clear c38
                                      obtain rfl := Option.some.inj H
                                      have p112 : 0 ≤ (x55_3 : Int) := of_decide_eq_true (by first | (with_reducible assumption) | assumption)
                                      have q112 : x55_3 < (y108.length : Int) := of_decide_eq_true (by first | (with_reducible assumption) | assumption)
                                      obtain ⟨ad112, e112, hx112_0, hx112_1, hx112_2, hx112_3⟩ := at_T34 HR111.out x55_3 p112 q112
                                      obtain rfl : ad105 = ad112 := (by injection e112)
                                      replace hx112_0 := (HB.out.cell (World.block_lt_of_cell? w _ hx112_0)).trans hx112_0
                                      replace hx112_1 := (HB.out.cell (World.block_lt_of_cell? w _ hx112_1)).trans hx112_1
                                      replace hx112_2 := (HB.out.cell (World.block_lt_of_cell? w _ hx112_2)).trans hx112_2
                                      replace hx112_3 := (HB.out.cell (World.block_lt_of_cell? w _ hx112_3)).trans hx112_3
                                      replace p112 := eq_true p112
                                      replace q112 := eq_true q112
                                      go_wp2_with (first | ((with_reducible refine gate_dst (N := 7) rfl ?_); refine box_event ?hg (N := 7) ?hd (cs := #[.string (⟨#[]⟩ : ByteArray), .int .i64 0, .int .i64 0, .string (⟨#[]⟩ : ByteArray)]) (t := 34) ?hr ?_; (case hd => rfl); (case hg => rfl); (case hr => first | (go_simp; done) | (go_simp; rfl)); intro gb113 hg w39 hbox hb; have n0_ := Aside0.mk (blk_below (g := gb103) (o := .cells #[.int .i64 a0_0, .int .i64 a0_1, .int .i64 a0_2, .slice (some ad105) l0_3.length c0_3] 50 (0, 0)) (by (with_reducible repeat (first | refine blk_drewN ?_ _ | refine blk_drew ?_ | refine blk_alloc ?_ _)); exact BK103.out) hb); have n1_ := Aside0.mk (blk_below (g := gb106) (o := .cells #[.string ((rd_T34 l0_3 x40_2).f0), .int .i64 ((rd_T34 l0_3 x40_2).f1), .int .i64 ((rd_T34 l0_3 x40_2).f2), .string ((rd_T34 l0_3 x40_2).f3)] 34 (0, 0)) (by (with_reducible repeat (first | refine blk_drewN ?_ _ | refine blk_drew ?_ | refine blk_alloc ?_ _)); exact BK106.out) hb); have n2_ := Aside0.mk (below_step (by repeat (first | (with_reducible first | exact HB.out | apply below_alloc | apply pw_below_drewN | apply below_drew1 | refine below_set ?_ GE103.out | refine below_set ?_ GE106.out) | exact HB.out)) hb); have n3_ := Aside0.mk (hbox); have n4_ := Aside0.mk ((by rw [hg]; exact (below_size (by repeat (first | (with_reducible first | exact HB.out | apply below_alloc | apply pw_below_drewN | apply below_drew1 | refine below_set ?_ GE103.out | refine below_set ?_ GE106.out) | exact HB.out))) : w.heap.size ≤ gb113)); have n5_ := Aside0.mk ((by rw [hg]; exact (below_size (by repeat (first | (with_reducible first | exact HB.out | apply below_alloc | apply pw_below_drewN | apply below_drew1 | refine below_set ?_ GE103.out | refine below_set ?_ GE106.out) | exact HB.out))) : w.heap.size ≤ gb113)); have n6_ := Aside0.mk ((by rw [hg]; exact Nat.ne_of_lt (blk_lt (g := gb103) (o := .cells #[.int .i64 a0_0, .int .i64 a0_1, .int .i64 a0_2, .slice (some ad105) l0_3.length c0_3] 50 (0, 0)) (by (with_reducible repeat (first | refine blk_drewN ?_ _ | refine blk_drew ?_ | refine blk_alloc ?_ _)); exact BK103.out)) : gb103 ≠ gb113)); have n7_ := Aside0.mk ((by rw [hg]; exact Nat.ne_of_gt (blk_lt (g := gb103) (o := .cells #[.int .i64 a0_0, .int .i64 a0_1, .int .i64 a0_2, .slice (some ad105) l0_3.length c0_3] 50 (0, 0)) (by (with_reducible repeat (first | refine blk_drewN ?_ _ | refine blk_drew ?_ | refine blk_alloc ?_ _)); exact BK103.out)) : gb113 ≠ gb103)); have n8_ := Aside0.mk ((by rw [hg]; exact Nat.ne_of_lt (blk_lt (g := gb106) (o := .cells #[.string ((rd_T34 l0_3 x40_2).f0), .int .i64 ((rd_T34 l0_3 x40_2).f1), .int .i64 ((rd_T34 l0_3 x40_2).f2), .string ((rd_T34 l0_3 x40_2).f3)] 34 (0, 0)) (by (with_reducible repeat (first | refine blk_drewN ?_ _ | refine blk_drew ?_ | refine blk_alloc ?_ _)); exact BK106.out)) : gb106 ≠ gb113)); have n9_ := Aside0.mk ((by rw [hg]; exact Nat.ne_of_gt (blk_lt (g := gb106) (o := .cells #[.string ((rd_T34 l0_3 x40_2).f0), .int .i64 ((rd_T34 l0_3 x40_2).f1), .int .i64 ((rd_T34 l0_3 x40_2).f2), .string ((rd_T34 l0_3 x40_2).f3)] 34 (0, 0)) (by (with_reducible repeat (first | refine blk_drewN ?_ _ | refine blk_drew ?_ | refine blk_alloc ?_ _)); exact BK106.out)) : gb113 ≠ gb106)); clear BK103; clear BK106; clear HB; have BK103 := n0_; have BK106 := n1_; have HB := n2_; have BK113 := n3_; have GW113 := n4_; have GE113 := n5_; have NB103_113 := n6_; have NB113_103 := n7_; have NB106_113 := n8_; have NB113_106 := n9_; clear n0_ n1_ n2_ n3_ n4_ n5_ n6_ n7_ n8_ n9_; clear hb hbox hg; have hnb40 := NB113_103.out; have hnc40 := NB103_113.out; have hnb41 := NB113_106.out; have hnc41 := NB106_113.out; have hcz42_0 : w39.cell? ⟨gb113, 0, none⟩ = some (.string (⟨#[]⟩ : ByteArray)) := (blk_cell BK113.out 0).trans rfl; have hcz42_1 : w39.cell? ⟨gb113, 1, none⟩ = some (.int .i64 0) := (blk_cell BK113.out 1).trans rfl; have hcz42_2 : w39.cell? ⟨gb113, 2, none⟩ = some (.int .i64 0) := (blk_cell BK113.out 2).trans rfl; have hcz42_3 : w39.cell? ⟨gb113, 3, none⟩ = some (.string (⟨#[]⟩ : ByteArray)) := (blk_cell BK113.out 3).trans rfl; have hfz42_0 := blk_frozen BK113.out 0; have hfz42_1 := blk_frozen BK113.out 1; have hfz42_2 := blk_frozen BK113.out 2; have hfz42_3 := blk_frozen BK113.out 3; have hnb43 := NB106_103.out; have hnc43 := NB103_106.out; have hcz44_0 : w39.cell? ⟨gb106, 0, none⟩ = some (.string ((rd_T34 l0_3 x40_2).f0)) := (blk_cell BK106.out 0).trans rfl; have hcz44_1 : w39.cell? ⟨gb106, 1, none⟩ = some (.int .i64 ((rd_T34 l0_3 x40_2).f1)) := (blk_cell BK106.out 1).trans rfl; have hcz44_2 : w39.cell? ⟨gb106, 2, none⟩ = some (.int .i64 ((rd_T34 l0_3 x40_2).f2)) := (blk_cell BK106.out 2).trans rfl; have hcz44_3 : w39.cell? ⟨gb106, 3, none⟩ = some (.string ((rd_T34 l0_3 x40_2).f3)) := (blk_cell BK106.out 3).trans rfl; have hfz44_0 := blk_frozen BK106.out 0; have hfz44_1 := blk_frozen BK106.out 1; have hfz44_2 := blk_frozen BK106.out 2; have hfz44_3 := blk_frozen BK106.out 3))
                                      go_ret
                                      exact ⟨by first | rfl | (simp [errW_none, errW_some] <;> rfl) | (simp [*, errW_none, errW_some] <;> rfl) | (simp only [isEmpty_ne_, isEmpty_eq_]; rfl) | (simp [*, isEmpty_ne_, isEmpty_eq_]; done), by repeat (first | (with_reducible first | exact HB.out | apply below_alloc | apply pw_below_drewN | apply below_drew1 | refine below_set ?_ GE103.out | refine below_set ?_ GE106.out | refine below_set ?_ GE113.out) | exact HB.out)⟩
                                    · rw [if_neg c38] at H
                                      have c38b0 : (((rd_T34 y108 x55_3).f0).toList == ((rd_T34 l0_3 x40_2).f0).toList) = false := beq_eq_false_iff_ne.mpr c38
                                      have c38b1 : (((rd_T34 y108 x55_3).f0).toList != ((rd_T34 l0_3 x40_2).f0).toList) = true := bne_iff_ne.mpr c38
                                      have H' := Aside0.mk H
                                      clear H
                                      have p112 : 0 ≤ (x55_3 : Int) := of_decide_eq_true (by first | (with_reducible assumption) | assumption)
                                      have q112 : x55_3 < (y108.length : Int) := of_decide_eq_true (by first | (with_reducible assumption) | assumption)
                                      obtain ⟨ad112, e112, hx112_0, hx112_1, hx112_2, hx112_3⟩ := at_T34 HR111.out x55_3 p112 q112
                                      obtain rfl : ad105 = ad112 := (by injection e112)
                                      replace hx112_0 := (HB.out.cell (World.block_lt_of_cell? w _ hx112_0)).trans hx112_0
                                      replace hx112_1 := (HB.out.cell (World.block_lt_of_cell? w _ hx112_1)).trans hx112_1
                                      replace hx112_2 := (HB.out.cell (World.block_lt_of_cell? w _ hx112_2)).trans hx112_2
                                      replace hx112_3 := (HB.out.cell (World.block_lt_of_cell? w _ hx112_3)).trans hx112_3
                                      replace p112 := eq_true p112
                                      replace q112 := eq_true q112
                                      go_wp2_with (first | ((with_reducible refine gate_dst (N := 7) rfl ?_); refine box_event ?hg (N := 7) ?hd (cs := #[.string (⟨#[]⟩ : ByteArray), .int .i64 0, .int .i64 0, .string (⟨#[]⟩ : ByteArray)]) (t := 34) ?hr ?_; (case hd => rfl); (case hg => rfl); (case hr => first | (go_simp; done) | (go_simp; rfl)); intro gb113 hg w45 hbox hb; have n0_ := Aside0.mk (blk_below (g := gb103) (o := .cells #[.int .i64 a0_0, .int .i64 a0_1, .int .i64 a0_2, .slice (some ad105) l0_3.length c0_3] 50 (0, 0)) (by (with_reducible repeat (first | refine blk_drewN ?_ _ | refine blk_drew ?_ | refine blk_alloc ?_ _)); exact BK103.out) hb); have n1_ := Aside0.mk (blk_below (g := gb106) (o := .cells #[.string ((rd_T34 l0_3 x40_2).f0), .int .i64 ((rd_T34 l0_3 x40_2).f1), .int .i64 ((rd_T34 l0_3 x40_2).f2), .string ((rd_T34 l0_3 x40_2).f3)] 34 (0, 0)) (by (with_reducible repeat (first | refine blk_drewN ?_ _ | refine blk_drew ?_ | refine blk_alloc ?_ _)); exact BK106.out) hb); have n2_ := Aside0.mk (below_step (by repeat (first | (with_reducible first | exact HB.out | apply below_alloc | apply pw_below_drewN | apply below_drew1 | refine below_set ?_ GE103.out | refine below_set ?_ GE106.out) | exact HB.out)) hb); have n3_ := Aside0.mk (hbox); have n4_ := Aside0.mk ((by rw [hg]; exact (below_size (by repeat (first | (with_reducible first | exact HB.out | apply below_alloc | apply pw_below_drewN | apply below_drew1 | refine below_set ?_ GE103.out | refine below_set ?_ GE106.out) | exact HB.out))) : w.heap.size ≤ gb113)); have n5_ := Aside0.mk ((by rw [hg]; exact (below_size (by repeat (first | (with_reducible first | exact HB.out | apply below_alloc | apply pw_below_drewN | apply below_drew1 | refine below_set ?_ GE103.out | refine below_set ?_ GE106.out) | exact HB.out))) : w.heap.size ≤ gb113)); have n6_ := Aside0.mk ((by rw [hg]; exact Nat.ne_of_lt (blk_lt (g := gb103) (o := .cells #[.int .i64 a0_0, .int .i64 a0_1, .int .i64 a0_2, .slice (some ad105) l0_3.length c0_3] 50 (0, 0)) (by (with_reducible repeat (first | refine blk_drewN ?_ _ | refine blk_drew ?_ | refine blk_alloc ?_ _)); exact BK103.out)) : gb103 ≠ gb113)); have n7_ := Aside0.mk ((by rw [hg]; exact Nat.ne_of_gt (blk_lt (g := gb103) (o := .cells #[.int .i64 a0_0, .int .i64 a0_1, .int .i64 a0_2, .slice (some ad105) l0_3.length c0_3] 50 (0, 0)) (by (with_reducible repeat (first | refine blk_drewN ?_ _ | refine blk_drew ?_ | refine blk_alloc ?_ _)); exact BK103.out)) : gb113 ≠ gb103)); have n8_ := Aside0.mk ((by rw [hg]; exact Nat.ne_of_lt (blk_lt (g := gb106) (o := .cells #[.string ((rd_T34 l0_3 x40_2).f0), .int .i64 ((rd_T34 l0_3 x40_2).f1), .int .i64 ((rd_T34 l0_3 x40_2).f2), .string ((rd_T34 l0_3 x40_2).f3)] 34 (0, 0)) (by (with_reducible repeat (first | refine blk_drewN ?_ _ | refine blk_drew ?_ | refine blk_alloc ?_ _)); exact BK106.out)) : gb106 ≠ gb113)); have n9_ := Aside0.mk ((by rw [hg]; exact Nat.ne_of_gt (blk_lt (g := gb106) (o := .cells #[.string ((rd_T34 l0_3 x40_2).f0), .int .i64 ((rd_T34 l0_3 x40_2).f1), .int .i64 ((rd_T34 l0_3 x40_2).f2), .string ((rd_T34 l0_3 x40_2).f3)] 34 (0, 0)) (by (with_reducible repeat (first | refine blk_drewN ?_ _ | refine blk_drew ?_ | refine blk_alloc ?_ _)); exact BK106.out)) : gb113 ≠ gb106)); clear BK103; clear BK106; clear HB; have BK103 := n0_; have BK106 := n1_; have HB := n2_; have BK113 := n3_; have GW113 := n4_; have GE113 := n5_; have NB103_113 := n6_; have NB113_103 := n7_; have NB106_113 := n8_; have NB113_106 := n9_; clear n0_ n1_ n2_ n3_ n4_ n5_ n6_ n7_ n8_ n9_; clear hb hbox hg; have hnb46 := NB113_103.out; have hnc46 := NB103_113.out; have hnb47 := NB113_106.out; have hnc47 := NB106_113.out; have hcz48_0 : w45.cell? ⟨gb113, 0, none⟩ = some (.string (⟨#[]⟩ : ByteArray)) := (blk_cell BK113.out 0).trans rfl; have hcz48_1 : w45.cell? ⟨gb113, 1, none⟩ = some (.int .i64 0) := (blk_cell BK113.out 1).trans rfl; have hcz48_2 : w45.cell? ⟨gb113, 2, none⟩ = some (.int .i64 0) := (blk_cell BK113.out 2).trans rfl; have hcz48_3 : w45.cell? ⟨gb113, 3, none⟩ = some (.string (⟨#[]⟩ : ByteArray)) := (blk_cell BK113.out 3).trans rfl; have hfz48_0 := blk_frozen BK113.out 0; have hfz48_1 := blk_frozen BK113.out 1; have hfz48_2 := blk_frozen BK113.out 2; have hfz48_3 := blk_frozen BK113.out 3; have hnb49 := NB106_103.out; have hnc49 := NB103_106.out; have hcz50_0 : w45.cell? ⟨gb106, 0, none⟩ = some (.string ((rd_T34 l0_3 x40_2).f0)) := (blk_cell BK106.out 0).trans rfl; have hcz50_1 : w45.cell? ⟨gb106, 1, none⟩ = some (.int .i64 ((rd_T34 l0_3 x40_2).f1)) := (blk_cell BK106.out 1).trans rfl; have hcz50_2 : w45.cell? ⟨gb106, 2, none⟩ = some (.int .i64 ((rd_T34 l0_3 x40_2).f2)) := (blk_cell BK106.out 2).trans rfl; have hcz50_3 : w45.cell? ⟨gb106, 3, none⟩ = some (.string ((rd_T34 l0_3 x40_2).f3)) := (blk_cell BK106.out 3).trans rfl; have hfz50_0 := blk_frozen BK106.out 0; have hfz50_1 := blk_frozen BK106.out 1; have hfz50_2 := blk_frozen BK106.out 2; have hfz50_3 := blk_frozen BK106.out 3))
                                      go_roundg k3
                                      case measure => have := HJ6.out; have := HK2.out; have := HK3.out; omega
                                      case rel => exact ⟨(wrap64 (x55_3 + 1)), (by first | rfl | (simp; done) | (simp [*]; done) | (simp only [isEmpty_ne_]; done)), H', ⟨by have := HJ6.out; have := HK2.out; have := HK3.out; omega⟩, ⟨by (with_reducible repeat (first | refine blk_drewN ?_ _ | refine blk_drew ?_ | refine blk_alloc ?_ _)); refine blk_far ?_ NB103_113.out _; (with_reducible repeat (first | refine blk_drewN ?_ _ | refine blk_drew ?_ | refine blk_alloc ?_ _)); refine blk_far ?_ NB103_113.out _; (with_reducible repeat (first | refine blk_drewN ?_ _ | refine blk_drew ?_ | refine blk_alloc ?_ _)); refine blk_far ?_ NB103_113.out _; (with_reducible repeat (first | refine blk_drewN ?_ _ | refine blk_drew ?_ | refine blk_alloc ?_ _)); refine blk_far ?_ NB103_113.out _; (with_reducible repeat (first | refine blk_drewN ?_ _ | refine blk_drew ?_ | refine blk_alloc ?_ _)); exact BK103.out⟩, ⟨by (with_reducible repeat (first | refine blk_drewN ?_ _ | refine blk_drew ?_ | refine blk_alloc ?_ _)); refine blk_far ?_ NB106_113.out _; (with_reducible repeat (first | refine blk_drewN ?_ _ | refine blk_drew ?_ | refine blk_alloc ?_ _)); refine blk_far ?_ NB106_113.out _; (with_reducible repeat (first | refine blk_drewN ?_ _ | refine blk_drew ?_ | refine blk_alloc ?_ _)); refine blk_far ?_ NB106_113.out _; (with_reducible repeat (first | refine blk_drewN ?_ _ | refine blk_drew ?_ | refine blk_alloc ?_ _)); refine blk_far ?_ NB106_113.out _; (with_reducible repeat (first | refine blk_drewN ?_ _ | refine blk_drew ?_ | refine blk_alloc ?_ _)); exact BK106.out⟩, ⟨by repeat (first | (with_reducible first | exact HB.out | apply below_alloc | apply pw_below_drewN | apply below_drew1 | refine below_set ?_ GE103.out | refine below_set ?_ GE106.out | refine below_set ?_ GE113.out) | exact HB.out)⟩⟩
                                  · rw [if_neg c37] at H
                                    exact absurd H (by simp)
                                · rw [if_neg c36] at H
                                  exact absurd H (by simp)
                              · rw [if_neg c35] at H
                                have c35b0 : decide (x55_3 < (y108.length : Int)) = false := decide_eq_false c35
                                clear c35
                                have H' := Aside0.mk H
                                clear H
                                go_wp2
                                go_roundg k3
                                case measure => have := HJ6.out; have := HK2.out; have := HK3.out; omega
                                case rel => exact ⟨(wrap64 (x40_2 + 1)), (by first | rfl | (simp; done) | (simp [*]; done) | (simp only [isEmpty_ne_]; done)), H', ⟨by have := HJ6.out; have := HK2.out; have := HK3.out; omega⟩, ⟨by (with_reducible repeat (first | refine blk_drewN ?_ _ | refine blk_drew ?_ | refine blk_alloc ?_ _)); exact BK103.out⟩, ⟨by repeat (first | (with_reducible first | exact HB.out | apply below_alloc | apply pw_below_drewN | apply below_drew1 | refine below_set ?_ GE103.out | refine below_set ?_ GE106.out) | exact HB.out)⟩⟩
                        · rw [if_neg c28] at H
                          exact absurd H (by simp)
                      · rw [if_neg c26] at H
                        have c26b0 : (t107 == 0) = false := beq_eq_false_iff_ne.mpr c26
                        have c26b1 : (t107 != 0) = true := bne_iff_ne.mpr c26
                        obtain rfl := Option.some.inj H
                        have p105 : 0 ≤ (x40_2 : Int) := of_decide_eq_true (by first | (with_reducible assumption) | assumption)
                        have q105 : x40_2 < (l0_3.length : Int) := of_decide_eq_true (by first | (with_reducible assumption) | assumption)
                        obtain ⟨ad105, e105, hx105_0, hx105_1, hx105_2, hx105_3⟩ := at_T34 HR0_3.out x40_2 p105 q105
                        cases e105
                        replace hx105_0 := (HB.out.cell (World.block_lt_of_cell? w _ hx105_0)).trans hx105_0
                        replace hx105_1 := (HB.out.cell (World.block_lt_of_cell? w _ hx105_1)).trans hx105_1
                        replace hx105_2 := (HB.out.cell (World.block_lt_of_cell? w _ hx105_2)).trans hx105_2
                        replace hx105_3 := (HB.out.cell (World.block_lt_of_cell? w _ hx105_3)).trans hx105_3
                        replace p105 := eq_true p105
                        replace q105 := eq_true q105
                        go_wp2_with (first | ((with_reducible refine gate_dst (N := 4) rfl ?_); refine box_event ?hg (N := 4) ?hd (cs := #[.string (⟨#[]⟩ : ByteArray), .int .i64 0, .int .i64 0, .string (⟨#[]⟩ : ByteArray)]) (t := 34) ?hr ?_; (case hd => rfl); (case hg => rfl); (case hr => first | (go_simp; done) | (go_simp; rfl)); intro gb106 hg w51 hbox hb; have n0_ := Aside0.mk (blk_below (g := gb103) (o := .cells #[.int .i64 a0_0, .int .i64 a0_1, .int .i64 a0_2, .slice (some ad105) l0_3.length c0_3] 50 (0, 0)) (by (with_reducible repeat (first | refine blk_drewN ?_ _ | refine blk_drew ?_ | refine blk_alloc ?_ _)); exact BK103.out) hb); have n1_ := Aside0.mk (below_step (by repeat (first | (with_reducible first | exact HB.out | apply below_alloc | apply pw_below_drewN | apply below_drew1 | refine below_set ?_ GE103.out) | exact HB.out)) hb); have n2_ := Aside0.mk (hbox); have n3_ := Aside0.mk ((by rw [hg]; exact (below_size (by repeat (first | (with_reducible first | exact HB.out | apply below_alloc | apply pw_below_drewN | apply below_drew1 | refine below_set ?_ GE103.out) | exact HB.out))) : w.heap.size ≤ gb106)); have n4_ := Aside0.mk ((by rw [hg]; exact (below_size (by repeat (first | (with_reducible first | exact HB.out | apply below_alloc | apply pw_below_drewN | apply below_drew1 | refine below_set ?_ GE103.out) | exact HB.out))) : w.heap.size ≤ gb106)); have n5_ := Aside0.mk ((by rw [hg]; exact Nat.ne_of_lt (blk_lt (g := gb103) (o := .cells #[.int .i64 a0_0, .int .i64 a0_1, .int .i64 a0_2, .slice (some ad105) l0_3.length c0_3] 50 (0, 0)) (by (with_reducible repeat (first | refine blk_drewN ?_ _ | refine blk_drew ?_ | refine blk_alloc ?_ _)); exact BK103.out)) : gb103 ≠ gb106)); have n6_ := Aside0.mk ((by rw [hg]; exact Nat.ne_of_gt (blk_lt (g := gb103) (o := .cells #[.int .i64 a0_0, .int .i64 a0_1, .int .i64 a0_2, .slice (some ad105) l0_3.length c0_3] 50 (0, 0)) (by (with_reducible repeat (first | refine blk_drewN ?_ _ | refine blk_drew ?_ | refine blk_alloc ?_ _)); exact BK103.out)) : gb106 ≠ gb103)); clear BK103; clear HB; have BK103 := n0_; have HB := n1_; have BK106 := n2_; have GW106 := n3_; have GE106 := n4_; have NB103_106 := n5_; have NB106_103 := n6_; clear n0_ n1_ n2_ n3_ n4_ n5_ n6_; clear hb hbox hg; have hnb52 := NB106_103.out; have hnc52 := NB103_106.out; have hcz53_0 : w51.cell? ⟨gb106, 0, none⟩ = some (.string (⟨#[]⟩ : ByteArray)) := (blk_cell BK106.out 0).trans rfl; have hcz53_1 : w51.cell? ⟨gb106, 1, none⟩ = some (.int .i64 0) := (blk_cell BK106.out 1).trans rfl; have hcz53_2 : w51.cell? ⟨gb106, 2, none⟩ = some (.int .i64 0) := (blk_cell BK106.out 2).trans rfl; have hcz53_3 : w51.cell? ⟨gb106, 3, none⟩ = some (.string (⟨#[]⟩ : ByteArray)) := (blk_cell BK106.out 3).trans rfl; have hfz53_0 := blk_frozen BK106.out 0; have hfz53_1 := blk_frozen BK106.out 1; have hfz53_2 := blk_frozen BK106.out 2; have hfz53_3 := blk_frozen BK106.out 3) | ((with_reducible refine gate_callee (f := 116) rfl ?_); refine goesL_ (some 46) rfl rfl Tryd.func116 (by kernel_rfl) rfl #[.agg #[.string ((rd_T34 l0_3 x40_2).f0), .int .i64 ((rd_T34 l0_3 x40_2).f1), .int .i64 ((rd_T34 l0_3 x40_2).f2), .string ((rd_T34 l0_3 x40_2).f3)]] rfl (by (try simp only [List.map_toArray, List.map_cons, List.map_nil]); first | done | rfl | (simp only [List.length_drop, List.length_take]; rfl)) ?_; (with_reducible refine (value_Check.calls k2 ((rd_T34 l0_3 x40_2).f0) ((rd_T34 l0_3 x40_2).f1) ((rd_T34 l0_3 x40_2).f2) ((rd_T34 l0_3 x40_2).f3) t107 _ A25.out).mono ?_); rintro e w54 ⟨rfl, hb⟩; refine ⟨_, rfl, ?_⟩; have n0_ := Aside0.mk (blk_below (g := gb103) (o := .cells #[.int .i64 a0_0, .int .i64 a0_1, .int .i64 a0_2, .slice (some ad105) l0_3.length c0_3] 50 (0, 0)) (by (with_reducible repeat (first | refine blk_drewN ?_ _ | refine blk_drew ?_ | refine blk_alloc ?_ _)); refine blk_far ?_ NB103_106.out _; (with_reducible repeat (first | refine blk_drewN ?_ _ | refine blk_drew ?_ | refine blk_alloc ?_ _)); refine blk_far ?_ NB103_106.out _; (with_reducible repeat (first | refine blk_drewN ?_ _ | refine blk_drew ?_ | refine blk_alloc ?_ _)); refine blk_far ?_ NB103_106.out _; (with_reducible repeat (first | refine blk_drewN ?_ _ | refine blk_drew ?_ | refine blk_alloc ?_ _)); refine blk_far ?_ NB103_106.out _; (with_reducible repeat (first | refine blk_drewN ?_ _ | refine blk_drew ?_ | refine blk_alloc ?_ _)); exact BK103.out) hb); have n1_ := Aside0.mk (blk_below (g := gb106) (o := .cells #[.string ((rd_T34 l0_3 x40_2).f0), .int .i64 ((rd_T34 l0_3 x40_2).f1), .int .i64 ((rd_T34 l0_3 x40_2).f2), .string ((rd_T34 l0_3 x40_2).f3)] 34 (0, 0)) (by (with_reducible repeat (first | refine blk_drewN ?_ _ | refine blk_drew ?_ | refine blk_alloc ?_ _)); refine blk_put (cs := #[.string ((rd_T34 l0_3 x40_2).f0), .int .i64 ((rd_T34 l0_3 x40_2).f1), .int .i64 ((rd_T34 l0_3 x40_2).f2), .string (⟨#[]⟩ : ByteArray)]) ?_ 3 _ rfl; (with_reducible repeat (first | refine blk_drewN ?_ _ | refine blk_drew ?_ | refine blk_alloc ?_ _)); refine blk_put (cs := #[.string ((rd_T34 l0_3 x40_2).f0), .int .i64 ((rd_T34 l0_3 x40_2).f1), .int .i64 0, .string (⟨#[]⟩ : ByteArray)]) ?_ 2 _ rfl; (with_reducible repeat (first | refine blk_drewN ?_ _ | refine blk_drew ?_ | refine blk_alloc ?_ _)); refine blk_put (cs := #[.string ((rd_T34 l0_3 x40_2).f0), .int .i64 0, .int .i64 0, .string (⟨#[]⟩ : ByteArray)]) ?_ 1 _ rfl; (with_reducible repeat (first | refine blk_drewN ?_ _ | refine blk_drew ?_ | refine blk_alloc ?_ _)); refine blk_put (cs := #[.string (⟨#[]⟩ : ByteArray), .int .i64 0, .int .i64 0, .string (⟨#[]⟩ : ByteArray)]) ?_ 0 _ rfl; (with_reducible repeat (first | refine blk_drewN ?_ _ | refine blk_drew ?_ | refine blk_alloc ?_ _)); exact BK106.out) hb); have n2_ := Aside0.mk (below_step (by repeat (first | (with_reducible first | exact HB.out | apply below_alloc | apply pw_below_drewN | apply below_drew1 | refine below_set ?_ GE103.out | refine below_set ?_ GE106.out) | exact HB.out)) hb); clear BK103; clear BK106; clear HB; have BK103 := n0_; have BK106 := n1_; have HB := n2_; clear n0_ n1_ n2_; (try clear hb); (try clear hb2); (try clear hk); (try clear hi)))
                        go_ret
                        exact ⟨by first | rfl | (simp [errW_none, errW_some] <;> rfl) | (simp [*, errW_none, errW_some] <;> rfl) | (simp only [isEmpty_ne_, isEmpty_eq_]; rfl) | (simp [*, isEmpty_ne_, isEmpty_eq_]; done), by repeat (first | (with_reducible first | exact HB.out | apply below_alloc | apply pw_below_drewN | apply below_drew1 | refine below_set ?_ GE103.out | refine below_set ?_ GE106.out) | exact HB.out)⟩
                    · rw [if_neg c24] at H
                      exact absurd H (by simp)
                  · rw [if_neg c23] at H
                    exact absurd H (by simp)
                · rw [if_neg c22] at H
                  have c22b0 : decide (x40_2 < (l0_3.length : Int)) = false := decide_eq_false c22
                  clear c22
                  obtain rfl := Option.some.inj H
                  go_wp2
                  go_ret
                  exact ⟨by first | rfl | (simp [errW_none, errW_some] <;> rfl) | (simp [*, errW_none, errW_some] <;> rfl) | (simp only [isEmpty_ne_, isEmpty_eq_]; rfl) | (simp [*, isEmpty_ne_, isEmpty_eq_]; done), by repeat (first | (with_reducible first | exact HB.out | apply below_alloc | apply pw_below_drewN | apply below_drew1 | refine below_set ?_ GE103.out) | exact HB.out)⟩
end Go.Proofs.YtjnlmmjadlidlaaDoor.PRec
end
section
namespace Go.Proofs.YtjnlmmjadlidlaaDoor.PRec
open Go.RowKit Go.Proofs.YtjnlmmjadlidlaaDoorW.PrintWords
def Bd (B b : Nat) (s : ByteArray) (W : World) : Prop := Lib.IsBuilder 113 5 B b (Lib.byteCells s.data.toList) W
theorem builder_stays {B b : Nat} {p : Value} {bs : List Value} {w w' : World} (h : Lib.BuilderAt 113 5 B b p bs w) (hb : Below w.heap.size w w') : Lib.BuilderAt 113 5 B b p bs w' := by
  obtain ⟨hB, v, hbk, hown, hne⟩ := h
  exact ⟨hB, v, blk_below hbk hb, own_move hown (fun k hk => hb.block k (hown.lt k hk).2), hne⟩
theorem Bd.stays {B b : Nat} {s : ByteArray} {w w' : World} (h : Bd B b s w) (hb : Below w.heap.size w w') : Bd B b s w' := h.elim (fun h => .inl (builder_stays h hb)) (fun h => .inr (builder_stays h hb))
theorem strCells_eq (s : ByteArray) : Lib.strCells s = Lib.byteCells s.data.toList := rfl
theorem bd_write {B b : Nat} {s t : ByteArray} {W : World} (h : Bd B b s W) (hB : B ≤ W.heap.size) (hl : s.size + t.size ≤ 140737488355328) :
    Calls Tryd.prog 78 #[.pointer (some ⟨b, 0, none⟩), .string t] W fun e w' => e = .returned (.tuple #[.int .i64 t.size, .nilIface]) ∧ Bd B b (s ++ t) w' ∧ Below B W w' := by
  refine (Tryd.Builder_WriteString B b _ t W h (by rw [Lib.byteCells_length]; exact hl) hB).mono ?_
  rintro e w' ⟨rfl, h1, h2⟩
  refine ⟨rfl, .inr ?_, h2⟩
  have e : Lib.byteCells (s ++ t).data.toList = Lib.byteCells s.data.toList ++ Lib.strCells t := by rw [strCells_eq, ByteArray.data_append, Array.toList_append]; simp [Lib.byteCells]
  rw [e]
  exact h1
theorem bd_string {B b : Nat} {s : ByteArray} {W : World} (h : Bd B b s W) (hB : B ≤ W.heap.size) :
    Calls Tryd.prog 81 #[.pointer (some ⟨b, 0, none⟩)] W fun e w' => e = .returned (.string s) ∧ Below B W w' := by
  refine (Tryd.Builder_String_any B b s.data.toList W h hB).mono ?_
  rintro e w' ⟨rfl, h1⟩
  exact ⟨rfl, h1⟩
def head1 (a0 a1 : Int) : ByteArray := ((((⟨#[116, 121, 112, 101, 61]⟩ : ByteArray) ++ typeName a0) ++ (⟨#[32, 109, 115, 103, 61, 97, 117, 100, 105, 116, 40]⟩ : ByteArray)) ++ ⟨(Lib.itoa (Int.tdiv a1 1000)).toArray⟩) ++ (⟨#[46]⟩ : ByteArray)
def msS (a1 : Int) : ByteArray := ⟨(Lib.itoa (Int.tmod a1 1000)).toArray⟩
def head2 (a1 : Int) : ByteArray := (⟨(Lib.repeatL [48] (3 - (msS a1).size)).toArray⟩ : ByteArray) ++ msS a1
def head3 (a2 : Int) : ByteArray := ((⟨#[58]⟩ : ByteArray) ++ ⟨(Lib.itoa a2).toArray⟩) ++ (⟨#[41, 58]⟩ : ByteArray)
def fmtPairs (k : Nat) : List S34 → ByteArray → Option (ByteArray × Int)
  | [], s => some (s, 0)
  | p :: r, s => (value_Format.f k p.f0 p.f1 p.f2 p.f3).bind fun t => if t.2 = 0 then (if s.size + (1 + t.1.size) ≤ 140737488355328 then fmtPairs k r (s ++ ((⟨#[32]⟩ : ByteArray) ++ t.1)) else none) else some (⟨#[]⟩, t.2)
def record_Format.f (k : Nat) (a0_0 a0_1 a0_2 : Int) (l0_3 : List S34) : Option (ByteArray × Int) :=
  (record_Check.f k a0_0 a0_1 a0_2 l0_3).bind fun e => if e = 0 then
    (if (0 ≤ a0_1 ∧ a0_1 ≤ 4611686018427387904) ∧ (0 ≤ a0_2 ∧ a0_2 ≤ 4611686018427387904) then fmtPairs k l0_3 ((head1 a0_0 a0_1 ++ head2 a0_1) ++ head3 a0_2) else none) else some (⟨#[]⟩, e)
theorem fmtPairs.mono (k : Nat) : ∀ (l : List S34) (s : ByteArray), LeO (fmtPairs k l s) (fmtPairs (k + 1) l s)
  | [], _ => LeO.refl _
  | p :: r, s => by
    unfold fmtPairs
    refine LeO.bind (value_Format.mono _ _ _ _ _) (fun t => ?_)
    refine LeO.ite (LeO.ite (fmtPairs.mono k r _) (LeO.refl _)) (LeO.refl _)
theorem record_Format.mono : ∀ a0 a1 a2 a3 k, LeO (record_Format.f k a0 a1 a2 a3) (record_Format.f (k + 1) a0 a1 a2 a3) := by
  intro a0 a1 a2 a3 k
  unfold record_Format.f
  refine LeO.bind (record_Check.mono _ _ _ _ _) (fun t => ?_)
  exact LeO.ite (LeO.ite (fmtPairs.mono k _ _) (LeO.refl _)) (LeO.refl _)
theorem empty_app (s : ByteArray) : (⟨#[]⟩ : ByteArray) ++ s = s := by
  apply ByteArray.ext
  rw [ByteArray.data_append]
  simp
theorem head_size (nm t1 : ByteArray) : (((((⟨#[116, 121, 112, 101, 61]⟩ : ByteArray) ++ nm) ++ (⟨#[32, 109, 115, 103, 61, 97, 117, 100, 105, 116, 40]⟩ : ByteArray)) ++ t1) ++ (⟨#[46]⟩ : ByteArray)).size = nm.size + t1.size + 17 := by
  simp only [ByteArray.size_append]
  show 5 + nm.size + 11 + t1.size + 1 = _
  omega
theorem typeName_le (t : Int) : (typeName t).size ≤ 8 := by
  unfold typeName
  cases h : findT t 0 with
  | none => exact Nat.zero_le _
  | some x =>
    have hm := List.mem_of_find?_eq_some h
    have hall : ∀ x ∈ typesTab.drop 0, x.1.length ≤ 8 := by decide
    simpa [ByteArray.size] using hall x hm
theorem digits_le : ∀ (m u : Nat), u < 10 ^ (m + 1) → (Lib.decDigits u).length ≤ m + 1 := by
  intro m
  induction m with
  | zero => intro u h; rw [Lib.decDigits, dif_pos (by omega)]; simp
  | succ m ih =>
    intro u h
    rw [Lib.decDigits]
    split
    · simp
    · have := ih (u / 10) (by rw [Nat.pow_succ] at h; omega)
      simp only [List.length_append, List.length_cons, List.length_nil]
      omega
theorem ms_le {a : Int} (h : 0 ≤ a) : (msS a).size ≤ 3 := by
  have e : Int.tmod a 1000 = a % 1000 := Int.tmod_eq_emod_of_nonneg h
  show (Lib.itoa (Int.tmod a 1000)).toArray.size ≤ 3
  rw [e]
  unfold Lib.itoa
  rw [if_neg (by omega)]
  have := digits_le 2 (a % 1000).toNat (by omega)
  simpa using this
theorem drop_T34 (l : List S34) (i : Nat) (h : i < l.length) : l.drop i = rd_T34 l (i : Int) :: l.drop (i + 1) := by
  unfold rd_T34
  rw [Int.toNat_natCast, List.getD_eq_getElem?_getD, List.getElem?_eq_getElem h, Option.getD_some]
  exact List.drop_eq_getElem_cons h
theorem wrap_succ {j : Nat} (h : j + 1 ≤ 9223372036854775807) : wrap64 ((j : Int) + 1) = ((j + 1 : Nat) : Int) := by unfold wrap64; omega
theorem meas_lt {n j : Nat} (h : j + 1 ≤ n) : n - (intOf (.int .i64 ((j + 1 : Nat) : Int))).toNat < n - (intOf (.int .i64 (j : Int))).toNat := by
  show n - (((j + 1 : Nat) : Int)).toNat < n - ((j : Int)).toNat
  rw [Int.toNat_natCast, Int.toNat_natCast]
  omega
theorem head3_size (t : ByteArray) : (((⟨#[58]⟩ : ByteArray) ++ t) ++ (⟨#[41, 58]⟩ : ByteArray)).size = t.size + 3 := by
  simp only [ByteArray.size_append]
  show 1 + t.size + 2 = _
  omega
theorem sp_size (t : ByteArray) : ((⟨#[32]⟩ : ByteArray) ++ t).size = 1 + t.size := by
  rw [ByteArray.size_append]
  rfl
theorem itoa_le (n : Int) (h0 : -9223372036854775808 ≤ n) (h1 : n ≤ 9223372036854775807) : (⟨(Lib.itoa n).toArray⟩ : ByteArray).size ≤ 21 := by
  show (Lib.itoa n).toArray.size ≤ 21
  unfold Lib.itoa
  split
  · have := digits_le 19 n.natAbs (by omega)
    simp; omega
  · have := digits_le 19 n.toNat (by omega)
    simp; omega
set_option maxRecDepth 100000 in
set_option maxHeartbeats 8000000 in
theorem format_bad (k : Nat) (a0_0 a0_1 a0_2 : Int) (A0_3 : Option Addr) (c0_3 : Nat) (l0_3 : List S34) (ec : Int) (w : World) (hr0_3 : Kd.C k34 w A0_3 l0_3.length l0_3) (hc0_3 : l0_3.length ≤ c0_3) (hG : GL w) (hck : record_Check.f k a0_0 a0_1 a0_2 l0_3 = some ec) (he : ¬ ec = 0) :
    Calls Tryd.prog 36 #[.agg #[.int .i64 a0_0, .int .i64 a0_1, .int .i64 a0_2, .slice A0_3 l0_3.length c0_3]] w fun e w' => e = .returned (.tuple #[.string ⟨#[]⟩, .int .i64 ec]) ∧ Below w.heap.size w w' := by
  have hu50 := Tryd.underlying50
  have hu34 := Tryd.underlying34
  have HR := Aside0.mk hr0_3
  have HC := Aside0.mk hc0_3
  have HGL := Aside0.mk hG
  have HCK := Aside0.mk hck
  clear hr0_3 hc0_3 hG hck
  have he0 : (ec == 0) = false := by simpa using he
  have he1 : (ec != 0) = true := by simpa using he
  go_enter Tryd.func36, Tryd.ntmps36
  go_wp2_with (first | ((with_reducible refine gate_dst (N := 1) rfl ?_); refine box_event ?hg (N := 1) ?hd (cs := #[.int .i64 a0_0, .int .i64 a0_1, .int .i64 a0_2, .slice A0_3 l0_3.length c0_3]) (t := 50) ?hr ?_; (case hd => rfl); (case hg => rfl); (case hr => first | (go_simp; done) | (go_simp; rfl)); intro gr hg w1 hbox hb; have BK := Aside0.mk hbox; have HB := Aside0.mk hb; have GR := Aside0.mk hg; have hz0 : w1.cell? ⟨gr, 0, none⟩ = some (.int .i64 a0_0) := (blk_cell BK.out 0).trans rfl; have hz1 : w1.cell? ⟨gr, 1, none⟩ = some (.int .i64 a0_1) := (blk_cell BK.out 1).trans rfl; have hz2 : w1.cell? ⟨gr, 2, none⟩ = some (.int .i64 a0_2) := (blk_cell BK.out 2).trans rfl; have hz3 : w1.cell? ⟨gr, 3, none⟩ = some (.slice A0_3 l0_3.length c0_3) := (blk_cell BK.out 3).trans rfl; clear hg hbox hb))
  refine (record_Check.calls k a0_0 a0_1 a0_2 _ _ l0_3 ec _ ?s1 ?s2 ?s3 HCK.out).mono ?_
  case s1 => exact Kd.C_below HR.out HB.out
  case s2 => exact HC.out
  case s3 => exact GL.below HGL.out HB.out
  rintro e w2 ⟨rfl, hb⟩
  clear hz0 hz1 hz2 hz3
  have HB2 := Aside0.mk (below_step HB.out hb)
  clear BK HB hb
  go_wp2_with fail
  go_ret2
  exact ⟨rfl, HB2.out⟩
set_option maxRecDepth 100000 in
set_option maxHeartbeats 8000000 in
theorem record_Format.calls (k : Nat) (a0_0 a0_1 a0_2 : Int) (A0_3 : Option Addr) (c0_3 : Nat) (l0_3 : List S34) (r1 : ByteArray) (r2 : Int) (w : World) (hr0_3 : Kd.C k34 w A0_3 l0_3.length l0_3) (hc0_3 : l0_3.length ≤ c0_3) (hG : GL w) (h : record_Format.f k a0_0 a0_1 a0_2 l0_3 = some (r1, r2)) :
    Calls Tryd.prog 36 #[.agg #[.int .i64 a0_0, .int .i64 a0_1, .int .i64 a0_2, .slice A0_3 l0_3.length c0_3]] w fun e w' => e = .returned (.tuple #[.string r1, .int .i64 r2]) ∧ Below w.heap.size w w' := by
  have hu50 := Tryd.underlying50
  have hu34 := Tryd.underlying34
  have HR := Aside0.mk hr0_3
  have HC := Aside0.mk hc0_3
  have HGL := Aside0.mk hG
  clear hr0_3 hc0_3 hG
  obtain ⟨ec, hck, H⟩ := Option.bind_eq_some_iff.1 h
  have HCK := Aside0.mk hck
  clear h hck
  by_cases he : ec = 0
  · rw [if_pos he] at H
    have he0 : (ec == 0) = true := by simpa using he
    have he1 : (ec != 0) = false := by simpa using he
    have HH := Aside0.mk H
    clear H
    subst he
    go_enter Tryd.func36, Tryd.ntmps36
    go_wp2_with (first | ((with_reducible refine gate_dst (N := 1) rfl ?_); refine box_event ?hg (N := 1) ?hd (cs := #[.int .i64 a0_0, .int .i64 a0_1, .int .i64 a0_2, .slice A0_3 l0_3.length c0_3]) (t := 50) ?hr ?_; (case hd => rfl); (case hg => rfl); (case hr => first | (go_simp; done) | (go_simp; rfl)); intro gr hg w1 hbox hb; have BK := Aside0.mk hbox; have HB := Aside0.mk hb; have GR := Aside0.mk hg; have hz0 : w1.cell? ⟨gr, 0, none⟩ = some (.int .i64 a0_0) := (blk_cell BK.out 0).trans rfl; have hz1 : w1.cell? ⟨gr, 1, none⟩ = some (.int .i64 a0_1) := (blk_cell BK.out 1).trans rfl; have hz2 : w1.cell? ⟨gr, 2, none⟩ = some (.int .i64 a0_2) := (blk_cell BK.out 2).trans rfl; have hz3 : w1.cell? ⟨gr, 3, none⟩ = some (.slice A0_3 l0_3.length c0_3) := (blk_cell BK.out 3).trans rfl; clear hg hbox hb))
    refine (record_Check.calls k a0_0 a0_1 a0_2 _ _ l0_3 0 _ ?s1 ?s2 ?s3 HCK.out).mono ?_
    case s1 => exact Kd.C_below HR.out HB.out
    case s2 => exact HC.out
    case s3 => exact GL.below HGL.out HB.out
    rintro e w2 ⟨rfl, hb⟩
    clear hz0 hz1 hz2 hz3
    have BK2 := Aside0.mk (blk_below BK.out hb)
    have HB2 := Aside0.mk (below_step HB.out hb)
    clear BK HB hb
    go_wp2_with (first | ((with_reducible refine gate_dst (N := 5) rfl ?_); refine box_event ?hg (N := 5) ?hd (cs := #[.pointer none, .slice none 0 0]) (t := 113) ?hr ?_; (case hd => rfl); (case hg => rfl); (case hr => first | (go_simp; done) | (go_simp; rfl)); intro gb hg w3 hbox hb; have BB := Aside0.mk hbox; have HB3 := Aside0.mk hb; have GB := Aside0.mk hg; clear hg hbox hb))
    have BK3 := Aside0.mk (blk_below BK2.out HB3.out)
    have hgrb : gr < gb := by rw [GB.out]; exact blk_lt BK2.out
    have hwb : w.heap.size ≤ gb := by rw [GB.out]; exact HB2.out.size
    have hD3 : Bd gb gb ⟨#[]⟩ w3 := .inl ⟨Nat.le_refl _, .slice none 0 0, BB.out, World.ownsRow_nil _ _ _ _, by simp [Value.ownBlock]⟩
    have hB3 : Below gb w2 w3 := by rw [GB.out]; exact HB3.out
    have HW3 := Aside0.mk (below_step HB2.out HB3.out)
    have HD3 := Aside0.mk hD3
    have HS3 := Aside0.mk (show gb ≤ w3.heap.size from Nat.le_of_lt (blk_lt BB.out))
    clear hD3 hB3 HB3 BB BK2 HB2 GB
    have hz0 : w3.cell? ⟨gr, 0, none⟩ = some (.int .i64 a0_0) := (blk_cell BK3.out 0).trans rfl
    have hz1 : w3.cell? ⟨gr, 1, none⟩ = some (.int .i64 a0_1) := (blk_cell BK3.out 1).trans rfl
    obtain ⟨hg1, hg2⟩ : (0 ≤ a0_1 ∧ a0_1 ≤ 4611686018427387904) ∧ (0 ≤ a0_2 ∧ a0_2 ≤ 4611686018427387904) := by
      by_cases hc : (0 ≤ a0_1 ∧ a0_1 ≤ 4611686018427387904) ∧ (0 ≤ a0_2 ∧ a0_2 ≤ 4611686018427387904)
      · exact hc
      · have := HH.out
        rw [if_neg hc] at this
        cases this
    have HP := Aside0.mk (show fmtPairs k l0_3 ((head1 a0_0 a0_1 ++ head2 a0_1) ++ head3 a0_2) = some (r1, r2) from by have h2 := HH.out; rw [if_pos ⟨hg1, hg2⟩] at h2; exact h2)
    clear HH
    obtain ⟨nm, hnm⟩ : ∃ x, x = typeName a0_0 := ⟨_, rfl⟩
    have hns : nm.size ≤ 8 := by rw [hnm]; exact typeName_le a0_0
    have HNM := Aside0.mk hnm
    clear hnm
    obtain ⟨t1, ht1⟩ : ∃ x : ByteArray, x = ⟨(Lib.itoa (Int.tdiv a0_1 1000)).toArray⟩ := ⟨_, rfl⟩
    have hq : Int.tdiv a0_1 1000 = a0_1 / 1000 := Int.tdiv_eq_ediv_of_nonneg hg1.1
    have hts : t1.size ≤ 21 := by rw [ht1]; exact itoa_le _ (by rw [hq]; omega) (by rw [hq]; omega)
    have HT1 := Aside0.mk ht1
    have hQ := Aside0.mk hq
    have hi1 : strconv_Itoa.f (a0_1 / 1000) = some t1 := by unfold strconv_Itoa.f; rw [if_pos (by omega), ht1, hq]
    have HI1 := Aside0.mk hi1
    clear ht1 hq hi1
    have k1 : (9223372036854775807 < 5 + nm.size) = False := eq_false (by omega)
    have k2 : (9223372036854775807 < 5 + nm.size + 11) = False := eq_false (by omega)
    have k3 : (9223372036854775807 < 5 + nm.size + 11 + t1.size) = False := eq_false (by omega)
    have k4 : (9223372036854775807 < 5 + nm.size + 11 + t1.size + 1) = False := eq_false (by omega)
    have hqd : Int.tdiv a0_1 1000 = a0_1 / 1000 := hQ.out
    have hqw : IntKind.i64.wrap (a0_1 / 1000) = a0_1 / 1000 := by rw [IntKind.wrap_i64]; omega
    go_region_held3 (fun w' => w'.cell? ⟨gr, 0, none⟩ = some (.int .i64 a0_0) ∧ w'.cell? ⟨gr, 1, none⟩ = some (.int .i64 a0_1)) (first | exact ⟨hz0, hz1⟩ | exact ⟨hy0, hy1⟩ | exact ⟨hx0, hx1⟩ | exact ⟨hv0, hv1⟩) (first | (go_at_call 42; refine (record_Name.calls a0_0 nm _ ?gl (by rw [HNM.out]; rfl)).mono ?_; (case gl => exact GL.below HGL.out (below_drew1 HW3.out)); rintro e w4 ⟨rfl, hb⟩; have HW4 := Aside0.mk (below_step (below_drew1 HW3.out) hb); have BK4 := Aside0.mk (blk_below (w := w3.drew) BK3.out hb); have HD4 := Aside0.mk (Bd.stays (w := w3.drew) HD3.out hb); have hy0 : w4.cell? ⟨gr, 0, none⟩ = some (.int .i64 a0_0) := (blk_cell BK4.out 0).trans rfl; have hy1 : w4.cell? ⟨gr, 1, none⟩ = some (.int .i64 a0_1) := (blk_cell BK4.out 1).trans rfl; have HS4 := Aside0.mk (Nat.le_trans HS3.out hb.size); clear hb) | (go_at_call 69; refine (strconv_Itoa.calls _ t1 _ ?gl ?hf).mono ?_; (case hf => first | exact HI1.out | (rw [hqw]; exact HI1.out)); (case gl => exact GL.below HGL.out HW4.out); rintro e w5 ⟨rfl, hb⟩; have HW5 := Aside0.mk (below_step HW4.out hb); have BK5 := Aside0.mk (blk_below BK4.out hb); have HD5 := Aside0.mk (Bd.stays HD4.out hb); have hx0 : w5.cell? ⟨gr, 0, none⟩ = some (.int .i64 a0_0) := (blk_cell BK5.out 0).trans rfl; have hx1 : w5.cell? ⟨gr, 1, none⟩ = some (.int .i64 a0_1) := (blk_cell BK5.out 1).trans rfl; have HS5 := Aside0.mk (Nat.le_trans HS4.out hb.size); clear hb) | (go_at_call 78; refine (bd_write HD5.out HS5.out ?sz).mono ?_; (case sz => rw [head_size]; show 0 + _ ≤ _; omega); rintro e w6 ⟨rfl, hd, hb⟩; have HW6 := Aside0.mk (below_weaken HW5.out hwb hb); have BK6 := Aside0.mk ((hb.block gr hgrb).trans BK5.out); have HD6 := Aside0.mk hd; have hv0 : w6.cell? ⟨gr, 0, none⟩ = some (.int .i64 a0_0) := (blk_cell BK6.out 0).trans rfl; have hv1 : w6.cell? ⟨gr, 1, none⟩ = some (.int .i64 a0_1) := (blk_cell BK6.out 1).trans rfl; have HS6 := Aside0.mk (Nat.le_trans HS5.out hb.size); clear hb hd))
    clear hz0 hz1 hy0 hy1 hx0 hx1 hv0 hv1
    clear HW3 BK3 HD3 HS3 HW4 BK4 HD4 HS4 HW5 BK5 HD5 HS5
    have hv1 : w6.cell? ⟨gr, 1, none⟩ = some (.int .i64 a0_1) := (blk_cell BK6.out 1).trans rfl
    have hv2 : w6.cell? ⟨gr, 2, none⟩ = some (.int .i64 a0_2) := (blk_cell BK6.out 2).trans rfl
    have hv3 : w6.cell? ⟨gr, 3, none⟩ = some (.slice A0_3 l0_3.length c0_3) := (blk_cell BK6.out 3).trans rfl
    have hmd : Int.tmod a0_1 1000 = a0_1 % 1000 := Int.tmod_eq_emod_of_nonneg hg1.1
    obtain ⟨s6, hs6, hz6, hd6⟩ : ∃ s6 : ByteArray, s6 = head1 a0_0 a0_1 ∧ s6.size ≤ 50 ∧ Bd gb gb s6 w6 := by
      have e : (⟨#[]⟩ : ByteArray) ++ (((((⟨#[116, 121, 112, 101, 61]⟩ : ByteArray) ++ nm) ++ (⟨#[32, 109, 115, 103, 61, 97, 117, 100, 105, 116, 40]⟩ : ByteArray)) ++ t1) ++ (⟨#[46]⟩ : ByteArray)) = head1 a0_0 a0_1 := by
        rw [HNM.out, HT1.out, empty_app]; rfl
      refine ⟨_, e, ?_, HD6.out⟩
      rw [empty_app, head_size]
      omega
    have HS1 := Aside0.mk hs6
    have HD6s := Aside0.mk hd6
    clear HD6 hs6 hd6
    have HD6 := HD6s
    clear HD6s
    obtain ⟨t2, ht2⟩ : ∃ x : ByteArray, x = msS a0_1 := ⟨_, rfl⟩
    have hts2 : t2.size ≤ 3 := by rw [ht2]; exact ms_le hg1.1
    have hi2 : strconv_Itoa.f (a0_1 % 1000) = some t2 := by unfold strconv_Itoa.f; rw [if_pos (by omega), ht2, msS, hmd]
    have HT2 := Aside0.mk ht2
    have HI2 := Aside0.mk hi2
    clear ht2 hi2
    have hmw : IntKind.i64.wrap (a0_1 % 1000) = a0_1 % 1000 := by rw [IntKind.wrap_i64]; omega
    go_wp2_with fail
    refine (strconv_Itoa.calls _ t2 _ (GL.below HGL.out HW6.out) HI2.out).mono ?_
    rintro e w7 ⟨rfl, hb⟩
    have HW7 := Aside0.mk (below_step HW6.out hb)
    have BK7 := Aside0.mk (blk_below BK6.out hb)
    have HD7 := Aside0.mk (Bd.stays HD6.out hb)
    have HS7 := Aside0.mk (Nat.le_trans HS6.out hb.size)
    clear hb hv1 hv2 hv3 hmd hmw HW6 BK6 HD6 HS6
    have hrep : wrap64 (3 - (t2.size : Int)) = ((3 - t2.size : Nat) : Int) := by unfold wrap64; omega
    have hrepw : IntKind.i64.wrap (3 - (t2.size : Int)) = ((3 - t2.size : Nat) : Int) := by rw [IntKind.wrap_i64]; omega
    go_wp2_with fail
    refine (Tryd.strings_Repeat ⟨#[48]⟩ (3 - t2.size) w7 (by omega) (by show 1 * _ ≤ _; omega)).mono ?_
    rintro e w8 ⟨rfl, hb⟩
    obtain ⟨t3, ht3⟩ : ∃ x : ByteArray, x = ⟨(Lib.repeatL (⟨#[48]⟩ : ByteArray).data.toList (3 - t2.size)).toArray⟩ := ⟨_, rfl⟩
    rw [← ht3]
    have hts3 : t3.size ≤ 3 := by
      rw [ht3]
      show (Lib.repeatL [48] (3 - t2.size)).toArray.size ≤ 3
      have := Lib.repeatL_length [48] (3 - t2.size)
      simp at this ⊢
      omega
    have HT3 := Aside0.mk ht3
    have HW8 := Aside0.mk (below_step HW7.out hb)
    have BK8 := Aside0.mk (blk_below BK7.out hb)
    have HD8 := Aside0.mk (Bd.stays HD7.out hb)
    have HS8 := Aside0.mk (Nat.le_trans HS7.out hb.size)
    clear hb ht3 HW7 BK7 HD7 HS7 hrep hrepw
    have k5 : (9223372036854775807 < t3.size + t2.size) = False := eq_false (by omega)
    go_wp2_with fail
    refine (bd_write HD8.out HS8.out (by rw [ByteArray.size_append]; omega)).mono ?_
    rintro e w9 ⟨rfl, hd, hb⟩
    obtain ⟨s9, hs9⟩ : ∃ x, x = s6 ++ (t3 ++ t2) := ⟨_, rfl⟩
    rw [← hs9] at hd
    have hz9 : s9.size ≤ 60 := by rw [hs9, ByteArray.size_append, ByteArray.size_append]; omega
    have HS9e := Aside0.mk hs9
    have HW9 := Aside0.mk (below_weaken HW8.out hwb hb)
    have BK9 := Aside0.mk ((hb.block gr hgrb).trans BK8.out)
    have HD9 := Aside0.mk hd
    have HS9 := Aside0.mk (Nat.le_trans HS8.out hb.size)
    clear hb hd hs9 HW8 BK8 HD8 HS8 k5
    have hv2 : w9.cell? ⟨gr, 2, none⟩ = some (.int .i64 a0_2) := (blk_cell BK9.out 2).trans rfl
    obtain ⟨t4, ht4⟩ : ∃ x : ByteArray, x = ⟨(Lib.itoa a0_2).toArray⟩ := ⟨_, rfl⟩
    have hts4 : t4.size ≤ 21 := by rw [ht4]; exact itoa_le _ (by omega) (by omega)
    have HI4 := Aside0.mk (show strconv_Itoa.f a0_2 = some t4 by unfold strconv_Itoa.f; rw [if_pos (by omega), ht4])
    have HT4 := Aside0.mk ht4
    clear ht4
    go_wp2_with fail
    refine (strconv_Itoa.calls _ t4 _ (GL.below HGL.out HW9.out) HI4.out).mono ?_
    rintro e w10 ⟨rfl, hb⟩
    have HW10 := Aside0.mk (below_step HW9.out hb)
    have BK10 := Aside0.mk (blk_below BK9.out hb)
    have HD10 := Aside0.mk (Bd.stays HD9.out hb)
    have HS10 := Aside0.mk (Nat.le_trans HS9.out hb.size)
    clear hb hv2 HW9 BK9 HD9 HS9
    have k6 : (9223372036854775807 < 1 + t4.size) = False := eq_false (by omega)
    have k7 : (9223372036854775807 < 1 + t4.size + 2) = False := eq_false (by omega)
    go_wp2_with fail
    refine (bd_write HD10.out HS10.out (by rw [head3_size]; omega)).mono ?_
    rintro e w11 ⟨rfl, hd, hb⟩
    obtain ⟨s11, hs11, hz11, HP11⟩ : ∃ x, x = s9 ++ (((⟨#[58]⟩ : ByteArray) ++ t4) ++ (⟨#[41, 58]⟩ : ByteArray)) ∧ x.size ≤ 100 ∧ Aside0 (fmtPairs k l0_3 x = some (r1, r2)) := by
      refine ⟨_, rfl, by rw [ByteArray.size_append, head3_size]; omega, ⟨?_⟩⟩
      have h2 := HP.out
      rw [show head1 a0_0 a0_1 = s6 from HS1.out.symm, show head2 a0_1 = t3 ++ t2 from by rw [head2, HT3.out, HT2.out], show head3 a0_2 = ((⟨#[58]⟩ : ByteArray) ++ t4) ++ (⟨#[41, 58]⟩ : ByteArray) from by rw [head3, HT4.out]] at h2
      rw [HS9e.out]
      exact h2
    rw [← hs11] at hd
    have HW11 := Aside0.mk (below_weaken HW10.out hwb hb)
    have BK11 := Aside0.mk ((hb.block gr hgrb).trans BK10.out)
    have HD11 := Aside0.mk hd
    have HS11 := Aside0.mk (Nat.le_trans HS10.out hb.size)
    clear hb hd hs11 HW10 BK10 HD10 HS10 k6 k7 HP HS1 HS9e HT4 HT3 HT2 HI4 HI2 HT1 HI1 HNM k1 k2 k3 k4 hqd hqw hz6 hz9 hts hts2 hts3 hts4 hns
    have hv3 : w11.cell? ⟨gr, 3, none⟩ = some (.slice A0_3 l0_3.length c0_3) := (blk_cell BK11.out 3).trans rfl
    go_wp2_with fail
    clear hv3 BK11
    go_loopw [48] (fun i wr => ∃ (j : Nat) (s : ByteArray), j ≤ l0_3.length ∧ i = .int .i64 j ∧ Aside0 (fmtPairs k (l0_3.drop j) s = some (r1, r2)) ∧ Aside0 (Below w.heap.size w wr) ∧ Aside0 (Bd gb gb s wr) ∧ Aside0 (gb ≤ wr.heap.size)) (fun i _ => (l0_3.length - (intOf i).toNat))
    case atStart => exact ⟨0, s11, by omega, rfl, HP11, HW11, HD11, HS11⟩
    case round =>
      clear HP11 HW11 HD11 HS11
      obtain ⟨j, s, hj, rfl, HP, HW, HD, HS⟩ := hrel
      by_cases hlt : j < l0_3.length
      · have hpos : (0 : Int) ≤ (j : Int) := by omega
        have hltI : (j : Int) < (l0_3.length : Int) := by omega
        have HLE := Aside0.mk hlt
        have hp := HP.out
        rw [drop_T34 l0_3 j hlt] at hp
        simp only [fmtPairs] at hp
        obtain ⟨⟨t, e2⟩, hf, hq⟩ := Option.bind_eq_some_iff.1 hp
        have HF := Aside0.mk hf
        have HQ := Aside0.mk hq
        clear hp hf hq HP
        obtain ⟨ad, eA, hx0, hx1, hx2, hx3⟩ := at_T34 (Kd.C_below HR.out HW.out) (j : Int) hpos hltI
        subst eA
        simp only [Int.toNat_natCast] at hx0 hx1 hx2 hx3
        generalize rd_T34 l0_3 (j : Int) = p at hx0 hx1 hx2 hx3 HF
        by_cases he2 : e2 = 0
        · subst he2
          have hq2 := HQ.out
          rw [if_pos rfl] at hq2
          have hsz : s.size + (1 + t.size) ≤ 140737488355328 := by
            by_cases hc : s.size + (1 + t.size) ≤ 140737488355328
            · exact hc
            · rw [if_neg hc] at hq2; cases hq2
          rw [if_pos hsz] at hq2
          have HN := Aside0.mk hq2
          clear hq2 HQ
          go_wp2_with fail
          refine (value_Format.calls k p.f0 p.f1 p.f2 p.f3 t 0 _ (GL.below HGL.out (HW.out.alloc HW.out.size _)) HF.out).mono ?_
          rintro e w13 ⟨rfl, hb⟩
          have hba := below_alloc (Below.refl wr.heap.size wr) (.cells #[.string p.f0, .int .i64 p.f1, .int .i64 p.f2, .string p.f3] 34)
          have HDa : Bd gb gb s _ := Bd.stays HD.out hba
          have HW13 := Aside0.mk (below_step (HW.out.alloc HW.out.size _) hb)
          have HD13 := Aside0.mk (Bd.stays HDa hb)
          have HS13 := Aside0.mk (Nat.le_trans HS.out (Nat.le_trans hba.size hb.size))
          clear hb hba HDa HW HD HS hx0 hx1 hx2 hx3 HF
          have k8 : (9223372036854775807 < 1 + t.size) = False := eq_false (by omega)
          go_wp2_with fail
          refine (bd_write HD13.out HS13.out (by rw [sp_size]; exact hsz)).mono ?_
          rintro e w14 ⟨rfl, hd, hb⟩
          have HW14 := Aside0.mk (below_weaken HW13.out hwb hb)
          have HD14 := Aside0.mk hd
          have HS14 := Aside0.mk (Nat.le_trans HS13.out hb.size)
          clear hb hd HW13 HD13 HS13 k8
          go_wp2_with fail
          have hlen : l0_3.length ≤ 9223372036854775807 := HR.out.2.1
          have hle := HLE.out
          have hw : wrap64 ((j : Int) + 1) = ((j + 1 : Nat) : Int) := wrap_succ (Nat.le_trans hle hlen)
          rw [hw]
          refine ⟨⟨j + 1, _, hle, rfl, HN, HW14, HD14, HS14⟩, ?_⟩
          exact meas_lt hle
        · have hq2 := HQ.out
          rw [if_neg he2] at hq2
          simp only [Option.some.injEq, Prod.mk.injEq] at hq2
          obtain ⟨rfl, rfl⟩ := hq2
          have hn0 : (e2 == 0) = false := by simpa using he2
          have hn1 : (e2 != 0) = true := by simpa using he2
          clear HQ
          go_wp2_with fail
          refine (value_Format.calls k p.f0 p.f1 p.f2 p.f3 t e2 _ (GL.below HGL.out (HW.out.alloc HW.out.size _)) HF.out).mono ?_
          rintro e w13 ⟨rfl, hb⟩
          have HW13 := Aside0.mk (below_step (HW.out.alloc HW.out.size _) hb)
          clear hb HW HD HS hx0 hx1 hx2 hx3 HF
          go_wp2_with fail
          go_ret2
          exact ⟨rfl, HW13.out⟩
      · obtain rfl : j = l0_3.length := by omega
        have hp := HP.out
        rw [List.drop_length] at hp
        simp only [fmtPairs, Option.some.injEq, Prod.mk.injEq] at hp
        obtain ⟨rfl, rfl⟩ := hp
        clear HP
        go_wp2_with fail
        refine (bd_string HD.out HS.out).mono ?_
        rintro e w15 ⟨rfl, hb⟩
        have HW15 := Aside0.mk (below_weaken HW.out hwb hb)
        clear hb HW HD HS
        go_wp2_with fail
        go_ret2
        exact ⟨rfl, HW15.out⟩
  · rw [if_neg he] at H
    simp only [Option.some.injEq, Prod.mk.injEq] at H
    obtain ⟨rfl, rfl⟩ := H
    exact format_bad k a0_0 a0_1 a0_2 A0_3 c0_3 l0_3 ec w HR.out HC.out HGL.out HCK.out he
end Go.Proofs.YtjnlmmjadlidlaaDoor.PRec
end
section
namespace Go.Proofs.YtjnlmmjadlidlaaDoor.Pure3
open Go.RowKit Go.Proofs.YtjnlmmjadlidlaaDoor.PRec Go.Proofs.YtjnlmmjadlidlaaDoorW.PrintWords
def I64 (n : Int) : Prop := -9223372036854775808 ≤ n ∧ n ≤ 9223372036854775807
def safeB (b : Int) : Bool := !(decide (b < 33)) && (!(decide (b > 126)) && !(decide (b = 34)))
def isSafe (s : ByteArray) : Bool := allFrom (fun i => safeB (bt s i)) s.size 0
theorem safe_l0 (s : ByteArray) (hs : s.size ≤ 1000) (d : Nat) : ∀ (k i : Nat), i + d = s.size → d < k → value_safe.l0 k s s.size i = some (allFrom (fun i => safeB (bt s i)) d i) := by
  induction d with
  | zero =>
    intro k i hi hk
    obtain ⟨k, rfl⟩ : ∃ m, k = m + 1 := ⟨k - 1, by omega⟩
    simp only [value_safe.l0]
    rw [if_neg (by omega)]
    rfl
  | succ d ih =>
    intro k i hi hk
    obtain ⟨k, rfl⟩ : ∃ m, k = m + 1 := ⟨k - 1, by omega⟩
    simp only [value_safe.l0, allFrom]
    rw [if_pos (by omega), if_pos (by omega), if_pos (by omega), wsucc (n := s.size) (by omega) (by omega), ih k (i + 1) (by omega) (by omega)]
    generalize allFrom (fun i => safeB (bt s i)) d (i + 1) = q
    generalize bt s i = b
    unfold safeB
    by_cases h1 : b < 33
    · simp [h1]
    · by_cases h2 : b > 126
      · simp [h1, h2]
      · by_cases h3 : b = 34
        · subst h3; simp
        · simp [h1, h2, h3]
theorem safe_ev (s : ByteArray) (hs : s.size ≤ 1000) : Ev (fun k => value_safe.f k s) (isSafe s) :=
  ⟨s.size + 1, fun k hk => safe_l0 s hs s.size k 0 (by omega) (by omega)⟩
def hx (b : Int) : List Int := [rd digitsTab (b / 16), rd digitsTab (b % 16)]
def hexFrom (s : ByteArray) : Nat → Nat → List Int
  | 0, _ => []
  | d + 1, i => hx (bt s i) ++ hexFrom s d (i + 1)
theorem hexFrom_len (s : ByteArray) : ∀ d i, (hexFrom s d i).length = 2 * d
  | 0, _ => rfl
  | d + 1, i => by
    simp only [hexFrom, List.length_append, hexFrom_len s d (i + 1)]
    show 2 + 2 * d = _
    omega
theorem and15n : ∀ b : Nat, b < 256 → Go.bits .and .u8 (b : Int) 15 = (b : Int) % 16 := by decide +kernel
theorem and15 {b : Int} (h0 : 0 ≤ b) (h1 : b ≤ 255) : Go.bits .and .u8 b 15 = b % 16 := by
  have := and15n b.toNat (by omega)
  rwa [show ((b.toNat : Nat) : Int) = b from by omega] at this
theorem vq_l0 (s : ByteArray) (hs : s.size ≤ 1000) (d : Nat) : ∀ (k i : Nat) (acc : List Int), i + d = s.size → d < k → acc.length ≤ 1 + 2 * i → value_Quote.l0 k s acc s.size i = some (strOfNums (acc ++ hexFrom s d i), 0) := by
  induction d with
  | zero =>
    intro k i acc hi hk ha
    obtain ⟨k, rfl⟩ : ∃ m, k = m + 1 := ⟨k - 1, by omega⟩
    simp only [value_Quote.l0, hexFrom]
    rw [if_neg (by omega), List.append_nil]
  | succ d ih =>
    intro k i acc hi hk ha
    obtain ⟨k, rfl⟩ : ∃ m, k = m + 1 := ⟨k - 1, by omega⟩
    obtain ⟨b0, b1⟩ := bt_range s i
    simp only [value_Quote.l0, hexFrom]
    rw [if_pos (by omega), if_pos (by omega), if_pos (by omega), and15 b0 b1, if_pos (by omega), if_pos (by omega), if_pos (by omega), if_pos (by omega)]
    simp only [Option.bind_some]
    rw [if_pos (by simp; omega), wsucc (n := s.size) (by omega) (by omega), ih k (i + 1) _ (by omega) (by omega) (by simp; omega), List.append_assoc]
    rfl
def quoteS (s : ByteArray) : ByteArray × Int :=
  if (s.size : Int) > 640 then (⟨#[]⟩, 20) else if isSafe s = true then (((⟨#[34]⟩ : ByteArray) ++ s) ++ (⟨#[34]⟩ : ByteArray), 0) else (strOfNums ([120] ++ hexFrom s s.size 0), 0)
theorem vquote_ev (s : ByteArray) : Ev (fun k => value_Quote.f k s) (quoteS s) := by
  unfold value_Quote.f quoteS
  by_cases h : (s.size : Int) > 640
  · rw [if_pos h]; exact Ev.congr (fun k => if_pos h) (Ev.now _)
  · rw [if_neg h]
    refine Ev.congr (fun k => if_neg h) (Ev.bind (safe_ev s (by omega)) ?_)
    by_cases h2 : isSafe s = true
    · rw [if_pos h2]
      exact Ev.congr (fun k => by rw [if_pos h2, if_pos (by omega), if_pos (by omega)]) (Ev.now _)
    · rw [if_neg h2]
      have e : wrap64 (1 + wrap64 (2 * (s.size : Int))) = 1 + 2 * (s.size : Int) := by rw [w64 (x := 2 * (s.size : Int)) (by omega) (by omega), w64 (by omega) (by omega)]
      refine ⟨s.size + 1, fun k hk => ?_⟩
      show (if isSafe s = true then _ else _) = _
      rw [if_neg h2, e, if_pos (by omega), if_pos (by omega)]
      simp only [Option.bind_some, List.nil_append, List.length_nil]
      rw [if_pos (by omega)]
      exact vq_l0 s (by omega) s.size k 0 [120] (by omega) (by omega) (by simp)
theorem quoteS_size (s : ByteArray) : (quoteS s).1.size ≤ 1281 := by
  unfold quoteS
  by_cases h : (s.size : Int) > 640
  · rw [if_pos h]; exact Nat.zero_le _
  · rw [if_neg h]
    split
    · simp only [ByteArray.size_append]
      show 1 + s.size + 1 ≤ 1281
      omega
    · rw [strOfNums_size, List.length_append, hexFrom_len]
      show 1 + 2 * s.size ≤ 1281
      omega
theorem quoteS_ok {s : ByteArray} (h : ¬ (s.size : Int) > 640) : (quoteS s).2 = 0 := by
  unfold quoteS
  rw [if_neg h]
  split <;> rfl
theorem itoa_pos {n : Int} (h : ¬ n < 0) : Lib.itoa n = Lib.decDigits n.toNat := by unfold Lib.itoa; rw [if_neg h]
def textV (kind num : Int) (text : ByteArray) : ByteArray := if kind = 1 then ⟨(Lib.itoa num).toArray⟩ else if kind = 2 then (quoteS text).1 else ⟨#[40, 110, 117, 108, 108, 41]⟩
def fmtV (name : ByteArray) (kind num : Int) (text : ByteArray) : ByteArray × Int :=
  if checkV name kind num text = 0 then ((name ++ (⟨#[61]⟩ : ByteArray)) ++ textV kind num text, 0) else (⟨#[]⟩, checkV name kind num text)
theorem check_name {name : ByteArray} {kind num : Int} {text : ByteArray} (h : checkV name kind num text = 0) : name.size ≤ 16 ∧ ¬ (text.size : Int) > 640 ∧ (kind = 1 ∨ kind = 2 ∨ kind = 3) := by
  unfold checkV at h
  by_cases h1 : isName name = true
  · rw [if_pos h1] at h
    by_cases h2 : badB kind num text = true
    · rw [if_pos h2] at h; cases h
    · rw [if_neg h2] at h
      by_cases h3 : (text.size : Int) > 640
      · rw [if_pos h3] at h; cases h
      · refine ⟨?_, h3, ?_⟩
        · unfold isName at h1
          simp only [Bool.and_eq_true, decide_eq_true_eq] at h1
          exact h1.2.1
        · have h4 : badB kind num text = false := by simpa using h2
          unfold badB at h4
          simp only [Bool.not_eq_false', Bool.and_eq_true, Bool.or_eq_true, decide_eq_true_eq] at h4
          omega
  · rw [if_neg h1] at h; cases h
theorem vformat_ev (name : ByteArray) (kind num : Int) (text : ByteArray) (hn : I64 num) : Ev (fun k => value_Format.f k name kind num text) (fmtV name kind num text) := by
  unfold value_Format.f fmtV
  refine Ev.bind (vcheck_ev name kind num text) ?_
  by_cases h : checkV name kind num text = 0
  · rw [if_pos h]
    obtain ⟨hs, ht, hk⟩ := check_name h
    refine Ev.congr (fun k => if_pos h) ?_
    unfold textV
    by_cases h1 : kind = 1
    · have hl := itoa_le num hn.1 hn.2
      refine Ev.congr (fun k => ?_) (Ev.now _)
      rw [if_pos h1, if_pos h1]
      unfold strconv_Itoa.f
      rw [if_pos ⟨hn.1, hn.2⟩]
      simp only [Option.bind_some]
      rw [if_pos (by omega), if_pos (by omega)]
    · rw [if_neg h1]
      by_cases h2 : kind = 2
      · have hl := quoteS_size text
        have ho := quoteS_ok ht
        rw [if_pos h2]
        refine Ev.congr (fun k => by rw [if_neg h1, if_pos h2]) (Ev.bind (vquote_ev text) ?_)
        exact Ev.congr (fun k => by rw [if_pos ho, if_pos (by omega), if_pos (by omega)]) (Ev.now _)
      · rw [if_neg h2]
        exact Ev.congr (fun k => by rw [if_neg h1, if_neg h2, if_pos (by omega), if_pos (by omega)]) (Ev.now _)
  · rw [if_neg h]
    exact Ev.congr (fun k => if_neg h) (Ev.now _)
theorem fmtV_size (name : ByteArray) (kind num : Int) (text : ByteArray) (hn : I64 num) : (fmtV name kind num text).1.size ≤ 1400 := by
  unfold fmtV
  by_cases h : checkV name kind num text = 0
  · rw [if_pos h]
    obtain ⟨hs, ht, hk⟩ := check_name h
    simp only [ByteArray.size_append]
    have h1 : (textV kind num text).size ≤ 1300 := by
      unfold textV
      split
      · have := itoa_le num hn.1 hn.2; omega
      · split
        · have := quoteS_size text; omega
        · show 6 ≤ 1300; omega
    show name.size + 1 + _ ≤ 1400
    omega
  · rw [if_neg h]; exact Nat.zero_le _
end Go.Proofs.YtjnlmmjadlidlaaDoor.Pure3
end
section
namespace Go.Proofs.YtjnlmmjadlidlaaDoor.PRec
open Go.RowKit Go.Proofs.YtjnlmmjadlidlaaDoorW.PrintWords Go.Proofs.YtjnlmmjadlidlaaDoorW.PrintLast Go.Proofs.YtjnlmmjadlidlaaDoorW.PrintMore
attribute [local go_sem] max2_int min2_int max_two min_two max_three min_three max_four min_four
set_option linter.unusedVariables false
set_option linter.unusedSimpArgs false
mutual
def kauditref03_Check.j0 : Nat → Bool → Int → Int → Int → List (S34) → Option (Int)
  | 0, _, _, _, _, _ => none
  | k + 1, x33, x205000, x205001, x205002, x205003 => if x33 = true then (some 31) else (if (x205003.length : Int) > 24 then (some 32) else (kauditref03_Check.l0 k 0 x205000 x205001 x205002 x205003))
def kauditref03_Check.l0 : Nat → Int → Int → Int → Int → List (S34) → Option (Int)
  | 0, _, _, _, _, _ => none
  | k + 1, x5, x205000, x205001, x205002, x205003 => if x5 < (x205003.length : Int) then (if 0 ≤ x5 then ((kauditref02_Check.f k ((rd_T34 x205003 x5).f0) ((rd_T34 x205003 x5).f1) ((rd_T34 x205003 x5).f2) ((rd_T34 x205003 x5).f3)).bind fun t211 => (if t211 = 0 then (kauditref03_Check.l1 k x5 0 x205000 x205001 x205002 x205003) else (some t211))) else (none)) else (some 0)
def kauditref03_Check.l1 : Nat → Int → Int → Int → Int → Int → List (S34) → Option (Int)
  | 0, _, _, _, _, _, _ => none
  | k + 1, x5, x7, x205000, x205001, x205002, x205003 => if x7 < x5 then (if 0 ≤ x7 then (if x7 < (x205003.length : Int) then (if 0 ≤ x5 then (if x5 < (x205003.length : Int) then (if ((rd_T34 x205003 x7).f0).toList = ((rd_T34 x205003 x5).f0).toList then (some 33) else (kauditref03_Check.l1 k x5 (wrap64 (x7 + 1)) x205000 x205001 x205002 x205003)) else (none)) else (none)) else (none)) else (none)) else (kauditref03_Check.l0 k (wrap64 (x5 + 1)) x205000 x205001 x205002 x205003)
end
def kauditref03_Check.f (k : Nat) (a0_0 : Int) (a0_1 : Int) (a0_2 : Int) (l0_3 : List (S34)) : Option (Int) := (kauditref03_find.f k a0_0).bind fun bt205 => (if bt205.2.2.2 = true then (if a0_1 < 0 then (kauditref03_Check.j0 k true a0_0 a0_1 a0_2 l0_3) else (if a0_1 > 1099511627776 then (kauditref03_Check.j0 k true a0_0 a0_1 a0_2 l0_3) else (if a0_2 < 0 then (kauditref03_Check.j0 k true a0_0 a0_1 a0_2 l0_3) else (kauditref03_Check.j0 k (decide (a0_2 > 1073741824)) a0_0 a0_1 a0_2 l0_3)))) else (some 30))
theorem kauditref03_Check.mono_l : ∀ k, (∀ y0 y1 y2 y3 y4, LeO (kauditref03_Check.j0 k y0 y1 y2 y3 y4) (kauditref03_Check.j0 (k + 1) y0 y1 y2 y3 y4)) ∧ (∀ y0 y1 y2 y3 y4, LeO (kauditref03_Check.l0 k y0 y1 y2 y3 y4) (kauditref03_Check.l0 (k + 1) y0 y1 y2 y3 y4)) ∧ (∀ y0 y1 y2 y3 y4 y5, LeO (kauditref03_Check.l1 k y0 y1 y2 y3 y4 y5) (kauditref03_Check.l1 (k + 1) y0 y1 y2 y3 y4 y5))
  | 0 => ⟨fun _ _ _ _ _ r h => by simp [kauditref03_Check.j0] at h, fun _ _ _ _ _ r h => by simp [kauditref03_Check.l0] at h, fun _ _ _ _ _ _ r h => by simp [kauditref03_Check.l1] at h⟩
  | k + 1 => by
    obtain ⟨ih0, ih1, ih2⟩ := kauditref03_Check.mono_l k
    refine ⟨?_, ?_, ?_⟩
    · intro y0 y1 y2 y3 y4
      unfold kauditref03_Check.j0
      repeat' first
      | (with_reducible exact ih0 _ _ _ _ _)
      | (with_reducible exact ih1 _ _ _ _ _)
      | (with_reducible exact ih2 _ _ _ _ _ _)
      | (with_reducible exact kauditref02_Check.mono _ _ _ _ _)
      | (with_reducible exact kauditref03_find.mono _ _)
      | (with_reducible exact LeO.refl _)
      | (with_reducible exact LeO.none _)
      | (with_reducible refine LeO.ite ?_ ?_)
      | (with_reducible refine LeO.bind ?_ (fun _ => ?_))
      | exact ih0 _ _ _ _ _
      | exact ih1 _ _ _ _ _
      | exact ih2 _ _ _ _ _ _
      | exact kauditref02_Check.mono _ _ _ _ _
      | exact kauditref03_find.mono _ _
      | exact LeO.none _
      | refine LeO.ite ?_ ?_
      | refine LeO.bind ?_ (fun _ => ?_)
    · intro y0 y1 y2 y3 y4
      unfold kauditref03_Check.l0
      repeat' first
      | (with_reducible exact ih0 _ _ _ _ _)
      | (with_reducible exact ih1 _ _ _ _ _)
      | (with_reducible exact ih2 _ _ _ _ _ _)
      | (with_reducible exact kauditref02_Check.mono _ _ _ _ _)
      | (with_reducible exact kauditref03_find.mono _ _)
      | (with_reducible exact LeO.refl _)
      | (with_reducible exact LeO.none _)
      | (with_reducible refine LeO.ite ?_ ?_)
      | (with_reducible refine LeO.bind ?_ (fun _ => ?_))
      | exact ih0 _ _ _ _ _
      | exact ih1 _ _ _ _ _
      | exact ih2 _ _ _ _ _ _
      | exact kauditref02_Check.mono _ _ _ _ _
      | exact kauditref03_find.mono _ _
      | exact LeO.none _
      | refine LeO.ite ?_ ?_
      | refine LeO.bind ?_ (fun _ => ?_)
    · intro y0 y1 y2 y3 y4 y5
      unfold kauditref03_Check.l1
      repeat' first
      | (with_reducible exact ih0 _ _ _ _ _)
      | (with_reducible exact ih1 _ _ _ _ _)
      | (with_reducible exact ih2 _ _ _ _ _ _)
      | (with_reducible exact kauditref02_Check.mono _ _ _ _ _)
      | (with_reducible exact kauditref03_find.mono _ _)
      | (with_reducible exact LeO.refl _)
      | (with_reducible exact LeO.none _)
      | (with_reducible refine LeO.ite ?_ ?_)
      | (with_reducible refine LeO.bind ?_ (fun _ => ?_))
      | exact ih0 _ _ _ _ _
      | exact ih1 _ _ _ _ _
      | exact ih2 _ _ _ _ _ _
      | exact kauditref02_Check.mono _ _ _ _ _
      | exact kauditref03_find.mono _ _
      | exact LeO.none _
      | refine LeO.ite ?_ ?_
      | refine LeO.bind ?_ (fun _ => ?_)
theorem kauditref03_Check.mono : ∀ a0 a1 a2 a3 k, LeO (kauditref03_Check.f k a0 a1 a2 a3) (kauditref03_Check.f (k + 1) a0 a1 a2 a3) := by
  intro a0 a1 a2 a3 k
  obtain ⟨ih0, ih1, ih2⟩ := kauditref03_Check.mono_l k
  unfold kauditref03_Check.f
  repeat' first
      | (with_reducible exact ih0 _ _ _ _ _)
      | (with_reducible exact ih1 _ _ _ _ _)
      | (with_reducible exact ih2 _ _ _ _ _ _)
      | (with_reducible exact kauditref02_Check.mono _ _ _ _ _)
      | (with_reducible exact kauditref03_find.mono _ _)
      | (with_reducible exact LeO.refl _)
      | (with_reducible exact LeO.none _)
      | (with_reducible refine LeO.ite ?_ ?_)
      | (with_reducible refine LeO.bind ?_ (fun _ => ?_))
      | exact ih0 _ _ _ _ _
      | exact ih1 _ _ _ _ _
      | exact ih2 _ _ _ _ _ _
      | exact kauditref02_Check.mono _ _ _ _ _
      | exact kauditref03_find.mono _ _
      | exact LeO.none _
      | refine LeO.ite ?_ ?_
      | refine LeO.bind ?_ (fun _ => ?_)
end Go.Proofs.YtjnlmmjadlidlaaDoor.PRec
end
section
namespace Go.Proofs.YtjnlmmjadlidlaaDoor.PRec
open Go.RowKit Go.Proofs.YtjnlmmjadlidlaaDoorW.PrintWords Go.Proofs.YtjnlmmjadlidlaaDoorW.PrintLast Go.Proofs.YtjnlmmjadlidlaaDoorW.PrintMore
attribute [local go_sem] max2_int min2_int max_two min_two max_three min_three max_four min_four
set_option linter.unusedVariables false
set_option linter.unusedSimpArgs false
def kauditref03_Format.l0 : Nat → ByteArray → Int → Int → Int → Int → List (S34) → Option (ByteArray × Int)
  | 0, _, _, _, _, _, _ => none
  | k + 1, x5, x6, x228000, x228001, x228002, x228003 => if x6 < (x228003.length : Int) then (if 0 ≤ x6 then ((kauditref02_Format.f k ((rd_T34 x228003 x6).f0) ((rd_T34 x228003 x6).f1) ((rd_T34 x228003 x6).f2) ((rd_T34 x228003 x6).f3)).bind fun bt234 => (if 1 + bt234.1.size ≤ 9223372036854775807 then (if x5.size + 1 + bt234.1.size ≤ 9223372036854775807 then (kauditref03_Format.l0 k (x5 ++ ((⟨#[32]⟩ : ByteArray) ++ bt234.1)) (wrap64 (x6 + 1)) x228000 x228001 x228002 x228003) else (none)) else (none))) else (none)) else (some (x5, 0))
def kauditref03_Format.f (k : Nat) (a0_0 : Int) (a0_1 : Int) (a0_2 : Int) (l0_3 : List (S34)) : Option (ByteArray × Int) := (kauditref03_Check.f k a0_0 a0_1 a0_2 l0_3).bind fun t228 => (if t228 = 0 then ((kauditref03_Name.f k a0_0).bind fun t229 => (if 5 + t229.size ≤ 9223372036854775807 then (if 5 + t229.size + 11 ≤ 9223372036854775807 then ((kauditref01_Decimal.f (wrap64 (Int.tdiv a0_1 1000))).bind fun t230 => (if 5 + t229.size + 11 + t230.size ≤ 9223372036854775807 then (if 5 + t229.size + 11 + t230.size + 1 ≤ 9223372036854775807 then ((kauditref03_three.f (Int.tmod a0_1 1000)).bind fun t231 => (if 5 + t229.size + 11 + t230.size + 1 + t231.size ≤ 9223372036854775807 then (if 5 + t229.size + 11 + t230.size + 1 + t231.size + 1 ≤ 9223372036854775807 then ((kauditref01_Decimal.f a0_2).bind fun t232 => (if 5 + t229.size + 11 + t230.size + 1 + t231.size + 1 + t232.size ≤ 9223372036854775807 then (if 5 + t229.size + 11 + t230.size + 1 + t231.size + 1 + t232.size + 2 ≤ 9223372036854775807 then (kauditref03_Format.l0 k (((((((((⟨#[116, 121, 112, 101, 61]⟩ : ByteArray) ++ t229) ++ (⟨#[32, 109, 115, 103, 61, 97, 117, 100, 105, 116, 40]⟩ : ByteArray)) ++ t230) ++ (⟨#[46]⟩ : ByteArray)) ++ t231) ++ (⟨#[58]⟩ : ByteArray)) ++ t232) ++ (⟨#[41, 58]⟩ : ByteArray)) 0 a0_0 a0_1 a0_2 l0_3) else (none)) else (none))) else (none)) else (none))) else (none)) else (none))) else (none)) else (none))) else (some ((⟨#[]⟩ : ByteArray), t228)))
theorem kauditref03_Format.mono_l : ∀ k, (∀ y0 y1 y2 y3 y4 y5, LeO (kauditref03_Format.l0 k y0 y1 y2 y3 y4 y5) (kauditref03_Format.l0 (k + 1) y0 y1 y2 y3 y4 y5))
  | 0 => fun _ _ _ _ _ _ r h => by simp [kauditref03_Format.l0] at h
  | k + 1 => by
    have ih0 := kauditref03_Format.mono_l k
    · intro y0 y1 y2 y3 y4 y5
      unfold kauditref03_Format.l0
      repeat' first
      | (with_reducible exact ih0 _ _ _ _ _ _)
      | (with_reducible exact kauditref02_Format.mono _ _ _ _ _)
      | (with_reducible exact kauditref03_Check.mono _ _ _ _ _)
      | (with_reducible exact kauditref03_Name.mono _ _)
      | (with_reducible exact LeO.refl _)
      | (with_reducible exact LeO.none _)
      | (with_reducible refine LeO.ite ?_ ?_)
      | (with_reducible refine LeO.bind ?_ (fun _ => ?_))
      | exact ih0 _ _ _ _ _ _
      | exact kauditref02_Format.mono _ _ _ _ _
      | exact kauditref03_Check.mono _ _ _ _ _
      | exact kauditref03_Name.mono _ _
      | exact LeO.none _
      | refine LeO.ite ?_ ?_
      | refine LeO.bind ?_ (fun _ => ?_)
theorem kauditref03_Format.mono : ∀ a0 a1 a2 a3 k, LeO (kauditref03_Format.f k a0 a1 a2 a3) (kauditref03_Format.f (k + 1) a0 a1 a2 a3) := by
  intro a0 a1 a2 a3 k
  have ih0 := kauditref03_Format.mono_l k
  unfold kauditref03_Format.f
  repeat' first
      | (with_reducible exact ih0 _ _ _ _ _ _)
      | (with_reducible exact kauditref02_Format.mono _ _ _ _ _)
      | (with_reducible exact kauditref03_Check.mono _ _ _ _ _)
      | (with_reducible exact kauditref03_Name.mono _ _)
      | (with_reducible exact LeO.refl _)
      | (with_reducible exact LeO.none _)
      | (with_reducible refine LeO.ite ?_ ?_)
      | (with_reducible refine LeO.bind ?_ (fun _ => ?_))
      | exact ih0 _ _ _ _ _ _
      | exact kauditref02_Format.mono _ _ _ _ _
      | exact kauditref03_Check.mono _ _ _ _ _
      | exact kauditref03_Name.mono _ _
      | exact LeO.none _
      | refine LeO.ite ?_ ?_
      | refine LeO.bind ?_ (fun _ => ?_)
end Go.Proofs.YtjnlmmjadlidlaaDoor.PRec
end
section
namespace Go.Proofs.YtjnlmmjadlidlaaDoor.Pure3
open Go.RowKit Go.Proofs.YtjnlmmjadlidlaaDoor.PRec Go.Proofs.YtjnlmmjadlidlaaDoorW.PrintWords
def sameAt (ps : List S34) (i j : Nat) : Bool := decide ((rd_T34 ps j).f0.toList = (rd_T34 ps i).f0.toList)
def chk (x : S34) : Int := checkV x.f0 x.f1 x.f2 x.f3
def pairsFrom (ps : List S34) : Nat → Nat → Int
  | 0, _ => 0
  | d + 1, i => if chk (rd_T34 ps i) = 0 then (if allFrom (fun j => !sameAt ps i j) i 0 = true then pairsFrom ps d (i + 1) else 33) else chk (rd_T34 ps i)
def checkR (t time serial : Int) (ps : List S34) : Int :=
  if (typeName t).toList = [] then 30 else if time < 0 ∨ time > 1099511627776 ∨ serial < 0 ∨ serial > 1073741824 then 31 else if (ps.length : Int) > 24 then 32 else pairsFrom ps ps.length 0
theorem rd_take {ps : List S34} {i j : Nat} (h : j < i) : rd_T34 (ps.take i) (j : Int) = rd_T34 ps (j : Int) := by
  unfold rd_T34
  rw [List.getD_eq_getElem?_getD, List.getD_eq_getElem?_getD, Int.toNat_natCast, List.getElem?_take, if_pos h]
section
variable {ps : List S34} {t time serial : Int}
theorem chk_l1 (hl : ps.length ≤ 1000) (i : Nat) (hi : i < ps.length) (r' : Int) (h : Ev (fun k => record_Check.l0 k ps (ps.length : Int) ((i + 1 : Nat) : Int) t time serial ps) r') (d : Nat) : ∀ j : Nat, j + d = i →
    Ev (fun k => record_Check.l1 k ps (ps.length : Int) (i : Int) (ps.take i) (i : Int) (j : Int) t time serial ps (rd_T34 ps i).f0 (rd_T34 ps i).f1 (rd_T34 ps i).f2 (rd_T34 ps i).f3) (if allFrom (fun j => !sameAt ps i j) d j = true then r' else 33) := by
  induction d with
  | zero =>
    intro j hj
    refine Ev.step (f := fun k => record_Check.l0 k ps (ps.length : Int) ((i + 1 : Nat) : Int) t time serial ps) (fun k => ?_) (by simpa [allFrom] using h)
    simp only [record_Check.l1]
    rw [if_neg (by omega), wsucc (n := ps.length) (by omega) (by omega)]
  | succ d ih =>
    intro j hj
    have hlen : ((ps.take i).length : Int) = (i : Int) := by rw [List.length_take]; omega
    refine Ev.step (f := fun k => if (rd_T34 ps j).f0.toList = (rd_T34 ps i).f0.toList then some 33 else record_Check.l1 k ps (ps.length : Int) (i : Int) (ps.take i) (i : Int) ((j + 1 : Nat) : Int) t time serial ps (rd_T34 ps i).f0 (rd_T34 ps i).f1 (rd_T34 ps i).f2 (rd_T34 ps i).f3) (fun k => ?_) ?_
    · simp only [record_Check.l1]
      rw [if_pos (by omega), if_pos (by omega), if_pos (by omega), rd_take (by omega), wsucc (n := ps.length) (by omega) (by omega)]
    · simp only [allFrom]
      by_cases hs : (rd_T34 ps j).f0.toList = (rd_T34 ps i).f0.toList
      · have e : sameAt ps i j = true := decide_eq_true hs
        refine Ev.congr (fun k => if_pos hs) ?_
        simp only [e, Bool.not_true, Bool.false_and]
        exact Ev.now 33
      · have e : sameAt ps i j = false := decide_eq_false hs
        refine Ev.congr (fun k => if_neg hs) ?_
        simp only [e, Bool.not_false, Bool.true_and]
        exact ih (j + 1) (by omega)
theorem chk_l0 (hl : ps.length ≤ 1000) (d : Nat) : ∀ i : Nat, i + d = ps.length → Ev (fun k => record_Check.l0 k ps (ps.length : Int) (i : Int) t time serial ps) (pairsFrom ps d i) := by
  induction d with
  | zero =>
    intro i hi
    refine Ev.step (f := fun _ => some 0) (fun k => ?_) (Ev.now 0)
    simp only [record_Check.l0]
    rw [if_neg (by omega)]
  | succ d ih =>
    intro i hi
    have hlen : (((ps.take i).length : Nat) : Int) = (i : Int) := by rw [List.length_take]; omega
    refine Ev.step (f := fun k => (value_Check.f k (rd_T34 ps i).f0 (rd_T34 ps i).f1 (rd_T34 ps i).f2 (rd_T34 ps i).f3).bind fun t107 => if t107 = 0 then record_Check.l1 k ps (ps.length : Int) (i : Int) (ps.take i) (i : Int) ((0 : Nat) : Int) t time serial ps (rd_T34 ps i).f0 (rd_T34 ps i).f1 (rd_T34 ps i).f2 (rd_T34 ps i).f3 else some t107) (fun k => ?_) ?_
    · simp only [record_Check.l0]
      rw [if_pos (by omega), if_pos (by omega), if_pos (by omega), if_pos (by omega)]
      simp only [Option.bind_some, Int.toNat_natCast, hlen]
      rfl
    · simp only [pairsFrom]
      refine Ev.bind (vcheck_ev _ _ _ _) ?_
      show Ev (fun k => if chk (rd_T34 ps i) = 0 then _ else some (chk (rd_T34 ps i))) _
      by_cases hc : chk (rd_T34 ps i) = 0
      · rw [if_pos hc]
        exact Ev.congr (fun k => if_pos hc) (chk_l1 hl i (by omega) _ (ih (i + 1) (by omega)) i 0 (by omega))
      · rw [if_neg hc]
        exact Ev.congr (fun k => if_neg hc) (Ev.now _)
theorem chk_j0 (b : Bool) : Ev (fun k => record_Check.j0 k b t time serial ps) (if b = true then 31 else if (ps.length : Int) > 24 then 32 else pairsFrom ps ps.length 0) := by
  cases b with
  | true =>
    refine Ev.step (f := fun _ => some 31) (fun k => ?_) (Ev.now 31)
    simp only [record_Check.j0]
    rw [if_pos trivial]
  | false =>
    rw [if_neg Bool.false_ne_true]
    by_cases h : (ps.length : Int) > 24
    · rw [if_pos h]
      refine Ev.step (f := fun _ => some 32) (fun k => ?_) (Ev.now 32)
      simp only [record_Check.j0]
      rw [if_neg Bool.false_ne_true, if_pos h]
    · rw [if_neg h]
      refine Ev.step (f := fun k => record_Check.l0 k ps (ps.length : Int) ((0 : Nat) : Int) t time serial ps) (fun k => ?_) (chk_l0 (by omega) ps.length 0 (by omega))
      simp only [record_Check.j0]
      rw [if_neg Bool.false_ne_true, if_neg h]
      rfl
theorem stamps {J : Nat → Bool → Option Int} {R : Bool → Int} (hJ : ∀ b, Ev (fun k => J k b) (R b)) (hR : R true = 31) :
    Ev (fun k => if time < 0 then J k true else if time > 1099511627776 then J k true else if serial < 0 then J k true else J k (decide (serial > 1073741824))) (if time < 0 ∨ time > 1099511627776 ∨ serial < 0 ∨ serial > 1073741824 then 31 else R false) := by
  by_cases h1 : time < 0
  · rw [if_pos (.inl h1)]
    exact Ev.congr (fun k => if_pos h1) (by rw [← hR]; exact hJ true)
  · by_cases h2 : time > 1099511627776
    · rw [if_pos (.inr (.inl h2))]
      exact Ev.congr (fun k => by rw [if_neg h1, if_pos h2]) (by rw [← hR]; exact hJ true)
    · by_cases h3 : serial < 0
      · rw [if_pos (.inr (.inr (.inl h3)))]
        exact Ev.congr (fun k => by rw [if_neg h1, if_neg h2, if_pos h3]) (by rw [← hR]; exact hJ true)
      · by_cases h4 : serial > 1073741824
        · rw [if_pos (.inr (.inr (.inr h4)))]
          exact Ev.congr (fun k => by rw [if_neg h1, if_neg h2, if_neg h3, decide_eq_true h4]) (by rw [← hR]; exact hJ true)
        · rw [if_neg (by omega)]
          exact Ev.congr (fun k => by rw [if_neg h1, if_neg h2, if_neg h3, decide_eq_false h4]) (hJ false)
theorem check_ev (t time serial : Int) (ps : List S34) : Ev (fun k => record_Check.f k t time serial ps) (checkR t time serial ps) := by
  unfold record_Check.f checkR
  simp only [record_Name.f, Option.bind_some]
  by_cases h : (typeName t).toList = []
  · rw [if_pos h]
    exact Ev.congr (fun k => if_pos h) (Ev.now _)
  · rw [if_neg h]
    refine Ev.congr (fun k => if_neg h) ?_
    have := stamps (time := time) (serial := serial) (fun b => chk_j0 (ps := ps) (t := t) (time := time) (serial := serial) b) (if_pos rfl)
    rwa [if_neg Bool.false_ne_true] at this
end
theorem pairs_ok (ps : List S34) (d : Nat) : ∀ i, pairsFrom ps d i = 0 → ∀ j, i ≤ j → j < i + d → chk (rd_T34 ps (j : Int)) = 0 := by
  induction d with
  | zero => intro i _ j h1 h2; omega
  | succ d ih =>
    intro i h j h1 h2
    simp only [pairsFrom] at h
    by_cases hc : chk (rd_T34 ps i) = 0
    · rw [if_pos hc] at h
      by_cases ha : allFrom (fun j => !sameAt ps i j) i 0 = true
      · rw [if_pos ha] at h
        by_cases e : j = i
        · rw [e]; exact hc
        · exact ih (i + 1) h j (by omega) (by omega)
      · rw [if_neg ha] at h; cases h
    · rw [if_neg hc] at h; exact absurd h hc
def fmt34 (x : S34) : ByteArray := (fmtV x.f0 x.f1 x.f2 x.f3).1
def textPairs : List S34 → ByteArray → ByteArray
  | [], s => s
  | p :: r, s => textPairs r (s ++ ((⟨#[32]⟩ : ByteArray) ++ fmt34 p))
def lineHead (t time serial : Int) : ByteArray := (head1 t time ++ head2 time) ++ head3 serial
def formatR (t time serial : Int) (ps : List S34) : ByteArray × Int := if checkR t time serial ps = 0 then (textPairs ps (lineHead t time serial), 0) else (⟨#[]⟩, checkR t time serial ps)
def Nums (ps : List S34) : Prop := ∀ x ∈ ps, I64 x.f2
theorem fmt_ok {x : S34} (h : chk x = 0) : fmtV x.f0 x.f1 x.f2 x.f3 = (fmt34 x, 0) := by
  have h' : checkV x.f0 x.f1 x.f2 x.f3 = 0 := h
  unfold fmt34 fmtV
  rw [if_pos h']
theorem fmtPairs_ev : ∀ (ps : List S34) (s : ByteArray), Nums ps → (∀ x ∈ ps, chk x = 0) → s.size + ps.length * 2000 ≤ 1000000 → Ev (fun k => fmtPairs k ps s) (textPairs ps s, 0)
  | [], s, _, _, _ => Ev.now _
  | p :: r, s, hn, hc, hs => by
    have h1 := fmt_ok (hc p (List.mem_cons_self ..))
    have hz := fmtV_size p.f0 p.f1 p.f2 p.f3 (hn p (List.mem_cons_self ..))
    rw [h1] at hz
    have hz : (fmt34 p).size ≤ 1400 := hz
    rw [List.length_cons] at hs
    simp only [fmtPairs, textPairs]
    refine Ev.bind (vformat_ev p.f0 p.f1 p.f2 p.f3 (hn p (List.mem_cons_self ..))) ?_
    rw [h1]
    refine Ev.congr (fun k => by rw [if_pos rfl, if_pos (by show s.size + (1 + (fmt34 p).size) ≤ _; omega)]) (fmtPairs_ev r _ (fun x hx => hn x (List.mem_cons_of_mem _ hx)) (fun x hx => hc x (List.mem_cons_of_mem _ hx)) ?_)
    rw [ByteArray.size_append, sp_size]
    omega
theorem checkR_ok {t time serial : Int} {ps : List S34} (h : checkR t time serial ps = 0) : (0 ≤ time ∧ time ≤ 1099511627776) ∧ (0 ≤ serial ∧ serial ≤ 1073741824) ∧ ps.length ≤ 24 ∧ ∀ x ∈ ps, chk x = 0 := by
  unfold checkR at h
  by_cases h1 : (typeName t).toList = []
  · rw [if_pos h1] at h; cases h
  · rw [if_neg h1] at h
    by_cases h2 : time < 0 ∨ time > 1099511627776 ∨ serial < 0 ∨ serial > 1073741824
    · rw [if_pos h2] at h; cases h
    · rw [if_neg h2] at h
      by_cases h3 : (ps.length : Int) > 24
      · rw [if_pos h3] at h; cases h
      · rw [if_neg h3] at h
        refine ⟨by omega, by omega, by omega, fun x hx => ?_⟩
        obtain ⟨j, hj, rfl⟩ := List.getElem_of_mem hx
        have := pairs_ok ps ps.length 0 h j (by omega) (by omega)
        have e : rd_T34 ps (j : Int) = ps[j] := by
          unfold rd_T34
          rw [Int.toNat_natCast, List.getD_eq_getElem?_getD, List.getElem?_eq_getElem hj]
          rfl
        rwa [e] at this
theorem lineHead_size {t time serial : Int} (h1 : 0 ≤ time ∧ time ≤ 1099511627776) (h2 : 0 ≤ serial ∧ serial ≤ 1073741824) : (lineHead t time serial).size ≤ 200 := by
  have a := typeName_le t
  have e : Int.tdiv time 1000 = time / 1000 := Int.tdiv_eq_ediv_of_nonneg h1.1
  have b := itoa_le (Int.tdiv time 1000) (by rw [e]; omega) (by rw [e]; omega)
  have c := ms_le h1.1
  have d := itoa_le serial (by omega) (by omega)
  unfold lineHead head1 head2 head3
  rw [ByteArray.size_append, ByteArray.size_append, head_size, head3_size, ByteArray.size_append]
  have z : (⟨(Lib.repeatL [48] (3 - (msS time).size)).toArray⟩ : ByteArray).size ≤ 3 := by
    show (Lib.repeatL [48] (3 - (msS time).size)).toArray.size ≤ 3
    rw [List.size_toArray, Lib.repeatL_length]
    simp only [List.length_cons, List.length_nil]
    omega
  omega
theorem format_ev (t time serial : Int) (ps : List S34) (hn : Nums ps) : Ev (fun k => record_Format.f k t time serial ps) (formatR t time serial ps) := by
  unfold record_Format.f formatR
  refine Ev.bind (check_ev t time serial ps) ?_
  by_cases h : checkR t time serial ps = 0
  · rw [if_pos h]
    obtain ⟨h1, h2, h3, h4⟩ := checkR_ok h
    have hz := lineHead_size (t := t) h1 h2
    refine Ev.congr (fun k => by rw [if_pos h, if_pos ⟨⟨h1.1, by omega⟩, ⟨h2.1, by omega⟩⟩]; rfl) (fmtPairs_ev ps _ hn h4 ?_)
    show (lineHead t time serial).size + _ ≤ _
    omega
  · rw [if_neg h]
    exact Ev.congr (fun k => if_neg h) (Ev.now _)
end Go.Proofs.YtjnlmmjadlidlaaDoor.Pure3
end
section
namespace Go.Proofs.YtjnlmmjadlidlaaDoor.PRec
open Go.RowKit Go.Proofs.YtjnlmmjadlidlaaDoorW.PrintWords Go.Proofs.YtjnlmmjadlidlaaDoorW.PrintLast Go.Proofs.YtjnlmmjadlidlaaDoorW.PrintMore
attribute [local go_sem] max2_int min2_int max_two min_two max_three min_three max_four min_four
set_option linter.unusedVariables false
set_option linter.unusedSimpArgs false
theorem eqA34 (d : Nat) (w : World) (x0 y0 : ByteArray) (x1 y1 : Int) (x2 y2 : Int) (x3 y3 : ByteArray) :
    (Op.equalIn (d + 2) 34 (.agg #[.string x0, .int .i64 x1, .int .i64 x2, .string x3]) (.agg #[.string y0, .int .i64 y1, .int .i64 y2, .string y3])).run Tryd.prog w = .ok (x0.toList == y0.toList && (x1 == y1 && (x2 == y2 && (x3.toList == y3.toList)))) w := by
  refine eqA_of Tryd.underlying34 (by kernel_rfl) ?_
  refine eqf_cons (by rfl) (by go_simp; rfl) (by go_simp; rfl) (by go_simp) ?_
  refine eqf_cons (by rfl) (by go_simp; rfl) (by go_simp; rfl) (by go_simp) ?_
  refine eqf_cons (by rfl) (by go_simp; rfl) (by go_simp; rfl) (by go_simp) ?_
  exact eqf_last (by rfl) (by go_simp; rfl) (by go_simp; rfl) (by go_simp)
end Go.Proofs.YtjnlmmjadlidlaaDoor.PRec
end
section
namespace Go.Proofs.YtjnlmmjadlidlaaDoor.PRec
open Go.RowKit Go.Proofs.YtjnlmmjadlidlaaDoorW.PrintWords Go.Proofs.YtjnlmmjadlidlaaDoorW.PrintLast Go.Proofs.YtjnlmmjadlidlaaDoorW.PrintMore
attribute [local go_sem] max2_int min2_int max_two min_two max_three min_three max_four min_four
set_option linter.unusedVariables false
set_option linter.unusedSimpArgs false
def kauditlaw03_awake.f (k : Nat)  : Option (Bool) := (record_Format.f k 1307 12345 7 (([(⟨(⟨#[99, 119, 100]⟩ : ByteArray), 2, 0, (⟨#[47, 116, 109, 112]⟩ : ByteArray)⟩ : S34)] : List (S34)))).bind fun bt137 => (if bt137.2 = 0 then (some (bt137.1.toList == ([116, 121, 112, 101, 61, 67, 87, 68, 32, 109, 115, 103, 61, 97, 117, 100, 105, 116, 40, 49, 50, 46, 51, 52, 53, 58, 55, 41, 58, 32, 99, 119, 100, 61, 34, 47, 116, 109, 112, 34] : List UInt8))) else (some false))
theorem kauditlaw03_awake.mono : ∀ k, LeO (kauditlaw03_awake.f k ) (kauditlaw03_awake.f (k + 1) ) := by
  intro  k
  unfold kauditlaw03_awake.f
  repeat' first
      | (with_reducible exact record_Format.mono _ _ _ _ _)
      | (with_reducible exact LeO.refl _)
      | (with_reducible exact LeO.none _)
      | (with_reducible refine LeO.ite ?_ ?_)
      | (with_reducible refine LeO.bind ?_ (fun _ => ?_))
      | exact record_Format.mono _ _ _ _ _
      | exact LeO.none _
      | refine LeO.ite ?_ ?_
      | refine LeO.bind ?_ (fun _ => ?_)
set_option maxHeartbeats 8000000 in
set_option maxRecDepth 100000 in
theorem kauditlaw03_awake.calls (k : Nat)  (r : Bool) (w : World) (hG : GL w) (h : kauditlaw03_awake.f k  = some r) :
    Calls Tryd.prog 30 #[] w fun e w' => e = .returned (.bool r) ∧ Below w.heap.size w w' := by
  have hu34 := Tryd.underlying34
  have hu50 := Tryd.underlying50
  have HB := Aside0.mk (Below.refl w.heap.size w)
  have HGL := Aside0.mk hG
  clear hG
  have H : ((record_Format.f k 1307 12345 7 (([(⟨(⟨#[99, 119, 100]⟩ : ByteArray), 2, 0, (⟨#[47, 116, 109, 112]⟩ : ByteArray)⟩ : S34)] : List (S34)))).bind fun bt137 => (if bt137.2 = 0 then (some (bt137.1.toList == ([116, 121, 112, 101, 61, 67, 87, 68, 32, 109, 115, 103, 61, 97, 117, 100, 105, 116, 40, 49, 50, 46, 51, 52, 53, 58, 55, 41, 58, 32, 99, 119, 100, 61, 34, 47, 116, 109, 112, 34] : List UInt8))) else (some false))) = some r := h
  clear h
  obtain ⟨y134, hy134⟩ : ∃ y_ : List (S34), y_ = (([(⟨(⟨#[99, 119, 100]⟩ : ByteArray), 2, 0, (⟨#[47, 116, 109, 112]⟩ : ByteArray)⟩ : S34)] : List (S34))) := ⟨_, rfl⟩
  replace H : ((record_Format.f k 1307 12345 7 y134).bind fun bt137 => (if bt137.2 = 0 then (some (bt137.1.toList == ([116, 121, 112, 101, 61, 67, 87, 68, 32, 109, 115, 103, 61, 97, 117, 100, 105, 116, 40, 49, 50, 46, 51, 52, 53, 58, 55, 41, 58, 32, 99, 119, 100, 61, 34, 47, 116, 109, 112, 34] : List UInt8))) else (some false))) = some r := by first | (rw [hy134]; with_reducible exact H) | (have H2_ := (Option.bind_some _ _).symm.trans H; rw [hy134]; with_reducible exact H2_) | (have H2_ := (Option.bind_some _ _).symm.trans H; with_reducible exact H2_) | with_reducible exact H | (rw [hy134]; exact H) | exact H
  have Ny134 := Aside0.mk hy134
  clear hy134
  replace H := Option.bind_eq_some_iff.mp H
  obtain ⟨⟨t137, t138⟩, A10, H⟩ := H
  replace H : (if t138 = 0 then (some (t137.toList == ([116, 121, 112, 101, 61, 67, 87, 68, 32, 109, 115, 103, 61, 97, 117, 100, 105, 116, 40, 49, 50, 46, 51, 52, 53, 58, 55, 41, 58, 32, 99, 119, 100, 61, 34, 47, 116, 109, 112, 34] : List UInt8))) else (some false)) = some r := H
  have A1 := Aside0.mk A10
  clear A10
  by_cases c2 : t138 = 0
  · rw [if_pos c2] at H
    have c2b0 : (t138 == 0) = true := beq_iff_eq.mpr c2
    have c2b1 : (t138 != 0) = false := bne_eq_false_iff_eq.mpr c2
    clear c2
    obtain rfl := Option.some.inj H
    go_enter Tryd.func30, Tryd.ntmps30
    go_wp2_with (first | ((with_reducible refine gate_dst (N := 5) rfl ?_); refine Kd.R_lit k34 _ 34 ?hg (N := 5) ?hd (xs := ([(⟨(⟨#[99, 119, 100]⟩ : ByteArray), 2, 0, (⟨#[47, 116, 109, 112]⟩ : ByteArray)⟩ : S34)] : List (S34))) (inner := [.string (⟨#[99, 119, 100]⟩ : ByteArray), .int .i64 2, .int .i64 0, .string (⟨#[47, 116, 109, 112]⟩ : ByteArray)]) (ok := fun _ => True) (okp := fun _ => True) ?hr ?hp (fun _ hk => hk) trivial (Below.refl _ _) (Nat.le_refl _) (by simp) ?_; (case hd => rfl); (case hg => rfl); (case hr => first | (go_simp; done) | (go_simp; rfl)); (case hp => exact (Reps.c4 (show Kd.M k34 _ _ _ (⟨(⟨#[99, 119, 100]⟩ : ByteArray), 2, 0, (⟨#[47, 116, 109, 112]⟩ : ByteArray)⟩ : S34) [.string (⟨#[99, 119, 100]⟩ : ByteArray), .int .i64 2, .int .i64 0, .string (⟨#[47, 116, 109, 112]⟩ : ByteArray)] from (k34_mkM _ _ _ (⟨(⟨#[99, 119, 100]⟩ : ByteArray), 2, 0, (⟨#[47, 116, 109, 112]⟩ : ByteArray)⟩ : S34) )) (Reps.none _ _))); intro v135 w3 ho4 hb hg_ hnew_; clear hg_ hnew_; (first | rw [← Ny134.out] at ho4 | (simp only [Int.reduceToNat] at ho4; rw [← Ny134.out] at ho4)); have n0_ := Aside0.mk (Kd.R_lower ho4 (below_size (by repeat (first | (with_reducible first | exact HB.out | apply below_alloc | apply pw_below_drewN | apply below_drew1) | exact HB.out)))); have n1_ := Aside0.mk (below_step (by repeat (first | (with_reducible first | exact HB.out | apply below_alloc | apply pw_below_drewN | apply below_drew1) | exact HB.out)) hb); clear HB; have HO136 := n0_; have HB := n1_; clear n0_ n1_; clear hb ho4; obtain ⟨Ao5, co5, eo5⟩ := Kd.R_slice HO136.out; subst eo5) | ((with_reducible refine gate_callee (f := 36) rfl ?_); refine goesL_ (some 7) rfl rfl Tryd.func36 (by kernel_rfl) rfl #[.agg #[.int .i64 1307, .int .i64 12345, .int .i64 7, .slice Ao5 y134.length co5]] rfl (by (try simp only [List.map_toArray, List.map_cons, List.map_nil]); first | done | rfl | (simp only [List.length_drop, List.length_take]; rfl)) ?_; (with_reducible refine (record_Format.calls k 1307 12345 7 _ _ y134 t137 t138 _ ?side1 ?side2 ?side3 A1.out).mono ?_); (case side1 => repeat (first | exact (Kd.R_reads' HO136.out).2.2 | (with_reducible refine Kd.C_alloc ?_ _) | (with_reducible refine Kd.C_drewN ?_ _) | (with_reducible refine Kd.C_drew ?_))); (case side2 => exact (Kd.R_reads' HO136.out).2.1); (case side3 => refine GL.below HGL.out ?_; repeat (first | (with_reducible first | exact HB.out | apply below_alloc | apply pw_below_drewN | apply below_drew1) | exact HB.out)); rintro e w6 ⟨rfl, hb⟩; refine ⟨_, rfl, ?_⟩; have n0_ := Aside0.mk (Kd.R_below (by (with_reducible repeat (first | apply Kd.R_alloc | apply Kd.R_drewN | apply Kd.R_drew)); exact HO136.out) hb); have n1_ := Aside0.mk (below_step (by repeat (first | (with_reducible first | exact HB.out | apply below_alloc | apply pw_below_drewN | apply below_drew1) | exact HB.out)) hb); clear HO136; clear HB; have HO136 := n0_; have HB := n1_; clear n0_ n1_; (try clear hb); (try clear hb2); (try clear hk); (try clear hi)))
    go_ret
    exact ⟨by first | rfl | (simp [errW_none, errW_some] <;> rfl) | (simp [*, errW_none, errW_some] <;> rfl) | (simp only [isEmpty_ne_, isEmpty_eq_]; rfl) | (simp [*, isEmpty_ne_, isEmpty_eq_]; done), by repeat (first | (with_reducible first | exact HB.out | apply below_alloc | apply pw_below_drewN | apply below_drew1) | exact HB.out)⟩
  · rw [if_neg c2] at H
    have c2b0 : (t138 == 0) = false := beq_eq_false_iff_ne.mpr c2
    have c2b1 : (t138 != 0) = true := bne_iff_ne.mpr c2
    obtain rfl := Option.some.inj H
    go_enter Tryd.func30, Tryd.ntmps30
    go_wp2_with (first | ((with_reducible refine gate_dst (N := 5) rfl ?_); refine Kd.R_lit k34 _ 34 ?hg (N := 5) ?hd (xs := ([(⟨(⟨#[99, 119, 100]⟩ : ByteArray), 2, 0, (⟨#[47, 116, 109, 112]⟩ : ByteArray)⟩ : S34)] : List (S34))) (inner := [.string (⟨#[99, 119, 100]⟩ : ByteArray), .int .i64 2, .int .i64 0, .string (⟨#[47, 116, 109, 112]⟩ : ByteArray)]) (ok := fun _ => True) (okp := fun _ => True) ?hr ?hp (fun _ hk => hk) trivial (Below.refl _ _) (Nat.le_refl _) (by simp) ?_; (case hd => rfl); (case hg => rfl); (case hr => first | (go_simp; done) | (go_simp; rfl)); (case hp => exact (Reps.c4 (show Kd.M k34 _ _ _ (⟨(⟨#[99, 119, 100]⟩ : ByteArray), 2, 0, (⟨#[47, 116, 109, 112]⟩ : ByteArray)⟩ : S34) [.string (⟨#[99, 119, 100]⟩ : ByteArray), .int .i64 2, .int .i64 0, .string (⟨#[47, 116, 109, 112]⟩ : ByteArray)] from (k34_mkM _ _ _ (⟨(⟨#[99, 119, 100]⟩ : ByteArray), 2, 0, (⟨#[47, 116, 109, 112]⟩ : ByteArray)⟩ : S34) )) (Reps.none _ _))); intro v135 w7 ho8 hb hg_ hnew_; clear hg_ hnew_; (first | rw [← Ny134.out] at ho8 | (simp only [Int.reduceToNat] at ho8; rw [← Ny134.out] at ho8)); have n0_ := Aside0.mk (Kd.R_lower ho8 (below_size (by repeat (first | (with_reducible first | exact HB.out | apply below_alloc | apply pw_below_drewN | apply below_drew1) | exact HB.out)))); have n1_ := Aside0.mk (below_step (by repeat (first | (with_reducible first | exact HB.out | apply below_alloc | apply pw_below_drewN | apply below_drew1) | exact HB.out)) hb); clear HB; have HO136 := n0_; have HB := n1_; clear n0_ n1_; clear hb ho8; obtain ⟨Ao9, co9, eo9⟩ := Kd.R_slice HO136.out; subst eo9) | ((with_reducible refine gate_callee (f := 36) rfl ?_); refine goesL_ (some 7) rfl rfl Tryd.func36 (by kernel_rfl) rfl #[.agg #[.int .i64 1307, .int .i64 12345, .int .i64 7, .slice Ao9 y134.length co9]] rfl (by (try simp only [List.map_toArray, List.map_cons, List.map_nil]); first | done | rfl | (simp only [List.length_drop, List.length_take]; rfl)) ?_; (with_reducible refine (record_Format.calls k 1307 12345 7 _ _ y134 t137 t138 _ ?side1 ?side2 ?side3 A1.out).mono ?_); (case side1 => repeat (first | exact (Kd.R_reads' HO136.out).2.2 | (with_reducible refine Kd.C_alloc ?_ _) | (with_reducible refine Kd.C_drewN ?_ _) | (with_reducible refine Kd.C_drew ?_))); (case side2 => exact (Kd.R_reads' HO136.out).2.1); (case side3 => refine GL.below HGL.out ?_; repeat (first | (with_reducible first | exact HB.out | apply below_alloc | apply pw_below_drewN | apply below_drew1) | exact HB.out)); rintro e w10 ⟨rfl, hb⟩; refine ⟨_, rfl, ?_⟩; have n0_ := Aside0.mk (Kd.R_below (by (with_reducible repeat (first | apply Kd.R_alloc | apply Kd.R_drewN | apply Kd.R_drew)); exact HO136.out) hb); have n1_ := Aside0.mk (below_step (by repeat (first | (with_reducible first | exact HB.out | apply below_alloc | apply pw_below_drewN | apply below_drew1) | exact HB.out)) hb); clear HO136; clear HB; have HO136 := n0_; have HB := n1_; clear n0_ n1_; (try clear hb); (try clear hb2); (try clear hk); (try clear hi)))
    go_ret
    exact ⟨by first | rfl | (simp [errW_none, errW_some] <;> rfl) | (simp [*, errW_none, errW_some] <;> rfl) | (simp only [isEmpty_ne_, isEmpty_eq_]; rfl) | (simp [*, isEmpty_ne_, isEmpty_eq_]; done), by repeat (first | (with_reducible first | exact HB.out | apply below_alloc | apply pw_below_drewN | apply below_drew1) | exact HB.out)⟩
end Go.Proofs.YtjnlmmjadlidlaaDoor.PRec
end
