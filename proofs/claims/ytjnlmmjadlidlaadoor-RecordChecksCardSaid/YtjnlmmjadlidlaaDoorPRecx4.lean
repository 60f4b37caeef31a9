-- Written by a program of mine (wip/kprint.sh): a plain Lean function for each Go function, and the proof that the Go code comes to its answers. Not trusted: Lean checks it.
import Derived.Test.YtjnlmmjadlidlaaDoorPRecx0
import Derived.Test.YtjnlmmjadlidlaaDoorPRecx3
import Derived.Test.YtjnlmmjadlidlaaDoorRE1
import Derived.Test.YtjnlmmjadlidlaaDoorRGL
namespace Go.Proofs.YtjnlmmjadlidlaaDoor.PRec
open Go.RowKit Go.Proofs.YtjnlmmjadlidlaaDoorW.PrintWords Go.Proofs.YtjnlmmjadlidlaaDoorW.PrintLast Go.Proofs.YtjnlmmjadlidlaaDoorW.PrintMore
attribute [local go_sem] max2_int min2_int max_two min_two max_three min_three max_four min_four   -- for this text's walks alone
set_option linter.unusedVariables false
set_option linter.unusedSimpArgs false

/-! ### record_Check: function 72 -/
mutual
def record_Check.j0 : Nat → Bool → Int → Int → Int → List (S34) → Option (Int)
  | 0, _, _, _, _, _ => none
  | k + 1, x13, x104000, x104001, x104002, x104003 => if x13 = true then (some 31) else (if (x104003.length : Int) > 24 then (some 32) else (record_Check.l0 k x104003 (x104003.length : Int) 0 x104000 x104001 x104002 x104003))
def record_Check.l0 : Nat → List (S34) → Int → Int → Int → Int → Int → List (S34) → Option (Int)
  | 0, _, _, _, _, _, _, _ => none
  | k + 1, x38, x39, x40, x104000, x104001, x104002, x104003 => if x40 < x39 then (if 0 ≤ x40 then (if x40 < (x38.length : Int) then ((value_Check.f k ((rd_T34 x38 x40).f0) ((rd_T34 x38 x40).f1) ((rd_T34 x38 x40).f2) ((rd_T34 x38 x40).f3)).bind fun t107 => (if t107 = 0 then (if x40 ≤ (x104003.length : Int) then ((some (x104003.take (x40 : Int).toNat : List (S34))).bind fun y108 => (record_Check.l1 k x38 x39 x40 y108 (y108.length : Int) 0 x104000 x104001 x104002 x104003 ((rd_T34 x38 x40).f0) ((rd_T34 x38 x40).f1) ((rd_T34 x38 x40).f2) ((rd_T34 x38 x40).f3))) else (none)) else (some t107))) else (none)) else (none)) else (some 0)
def record_Check.l1 : Nat → List (S34) → Int → Int → List (S34) → Int → Int → Int → Int → Int → List (S34) → ByteArray → Int → Int → ByteArray → Option (Int)
  | 0, _, _, _, _, _, _, _, _, _, _, _, _, _, _ => none
  | k + 1, x38, x39, x40, x53, x54, x55, x104000, x104001, x104002, x104003, x107000, x107001, x107002, x107003 => if x55 < x54 then (if 0 ≤ x55 then (if x55 < (x53.length : Int) then (if ((rd_T34 x53 x55).f0).toList = x107000.toList then (some 33) else (record_Check.l1 k x38 x39 x40 x53 x54 (wrap64 (x55 + 1)) x104000 x104001 x104002 x104003 x107000 x107001 x107002 x107003)) else (none)) else (none)) else (record_Check.l0 k x38 x39 (wrap64 (x40 + 1)) x104000 x104001 x104002 x104003)
end
def record_Check.f (k : Nat) (a0_0 : Int) (a0_1 : Int) (a0_2 : Int) (l0_3 : List (S34)) : Option (Int) := (record_Name.f a0_0).bind fun t104 => (if t104.toList = ([] : List UInt8) then (some 30) else (if a0_1 < 0 then (record_Check.j0 k true a0_0 a0_1 a0_2 l0_3) else (if a0_1 > 1099511627776 then (record_Check.j0 k true a0_0 a0_1 a0_2 l0_3) else (if a0_2 < 0 then (record_Check.j0 k true a0_0 a0_1 a0_2 l0_3) else (record_Check.j0 k (decide (a0_2 > 1073741824)) a0_0 a0_1 a0_2 l0_3)))))
theorem record_Check.mono_l : ∀ k, (∀ y0 y1 y2 y3 y4, LeO (record_Check.j0 k y0 y1 y2 y3 y4) (record_Check.j0 (k + 1) y0 y1 y2 y3 y4)) ∧ (∀ y0 y1 y2 y3 y4 y5 y6, LeO (record_Check.l0 k y0 y1 y2 y3 y4 y5 y6) (record_Check.l0 (k + 1) y0 y1 y2 y3 y4 y5 y6)) ∧ (∀ y0 y1 y2 y3 y4 y5 y6 y7 y8 y9 y10 y11 y12 y13, LeO (record_Check.l1 k y0 y1 y2 y3 y4 y5 y6 y7 y8 y9 y10 y11 y12 y13) (record_Check.l1 (k + 1) y0 y1 y2 y3 y4 y5 y6 y7 y8 y9 y10 y11 y12 y13))
  | 0 => ⟨fun _ _ _ _ _ r h => by simp [record_Check.j0] at h, fun _ _ _ _ _ _ _ r h => by simp [record_Check.l0] at h, fun _ _ _ _ _ _ _ _ _ _ _ _ _ _ r h => by simp [record_Check.l1] at h⟩
  | k + 1 => by
    obtain ⟨ih0, ih1, ih2⟩ := record_Check.mono_l k
    refine ⟨?_, ?_, ?_⟩
    · intro y0 y1 y2 y3 y4
      unfold record_Check.j0
      repeat' first
      | (with_reducible exact ih0 _ _ _ _ _)
      | (with_reducible exact ih1 _ _ _ _ _ _ _)
      | (with_reducible exact ih2 _ _ _ _ _ _ _ _ _ _ _ _ _ _)
      | (with_reducible exact value_Check.mono _ _ _ _ _)
      | (with_reducible exact LeO.refl _)
      | (with_reducible exact LeO.none _)
      | (with_reducible refine LeO.ite ?_ ?_)
      | (with_reducible refine LeO.bind ?_ (fun _ => ?_))
      | exact ih0 _ _ _ _ _
      | exact ih1 _ _ _ _ _ _ _
      | exact ih2 _ _ _ _ _ _ _ _ _ _ _ _ _ _
      | exact value_Check.mono _ _ _ _ _
      | exact LeO.none _
      | refine LeO.ite ?_ ?_
      | refine LeO.bind ?_ (fun _ => ?_)
    · intro y0 y1 y2 y3 y4 y5 y6
      unfold record_Check.l0
      repeat' first
      | (with_reducible exact ih0 _ _ _ _ _)
      | (with_reducible exact ih1 _ _ _ _ _ _ _)
      | (with_reducible exact ih2 _ _ _ _ _ _ _ _ _ _ _ _ _ _)
      | (with_reducible exact value_Check.mono _ _ _ _ _)
      | (with_reducible exact LeO.refl _)
      | (with_reducible exact LeO.none _)
      | (with_reducible refine LeO.ite ?_ ?_)
      | (with_reducible refine LeO.bind ?_ (fun _ => ?_))
      | exact ih0 _ _ _ _ _
      | exact ih1 _ _ _ _ _ _ _
      | exact ih2 _ _ _ _ _ _ _ _ _ _ _ _ _ _
      | exact value_Check.mono _ _ _ _ _
      | exact LeO.none _
      | refine LeO.ite ?_ ?_
      | refine LeO.bind ?_ (fun _ => ?_)
    · intro y0 y1 y2 y3 y4 y5 y6 y7 y8 y9 y10 y11 y12 y13
      unfold record_Check.l1
      repeat' first
      | (with_reducible exact ih0 _ _ _ _ _)
      | (with_reducible exact ih1 _ _ _ _ _ _ _)
      | (with_reducible exact ih2 _ _ _ _ _ _ _ _ _ _ _ _ _ _)
      | (with_reducible exact value_Check.mono _ _ _ _ _)
      | (with_reducible exact LeO.refl _)
      | (with_reducible exact LeO.none _)
      | (with_reducible refine LeO.ite ?_ ?_)
      | (with_reducible refine LeO.bind ?_ (fun _ => ?_))
      | exact ih0 _ _ _ _ _
      | exact ih1 _ _ _ _ _ _ _
      | exact ih2 _ _ _ _ _ _ _ _ _ _ _ _ _ _
      | exact value_Check.mono _ _ _ _ _
      | exact LeO.none _
      | refine LeO.ite ?_ ?_
      | refine LeO.bind ?_ (fun _ => ?_)
theorem record_Check.mono : ∀ a0 a1 a2 a3 k, LeO (record_Check.f k a0 a1 a2 a3) (record_Check.f (k + 1) a0 a1 a2 a3) := by
  intro a0 a1 a2 a3 k
  obtain ⟨ih0, ih1, ih2⟩ := record_Check.mono_l k
  unfold record_Check.f
  repeat' first
      | (with_reducible exact ih0 _ _ _ _ _)
      | (with_reducible exact ih1 _ _ _ _ _ _ _)
      | (with_reducible exact ih2 _ _ _ _ _ _ _ _ _ _ _ _ _ _)
      | (with_reducible exact value_Check.mono _ _ _ _ _)
      | (with_reducible exact LeO.refl _)
      | (with_reducible exact LeO.none _)
      | (with_reducible refine LeO.ite ?_ ?_)
      | (with_reducible refine LeO.bind ?_ (fun _ => ?_))
      | exact ih0 _ _ _ _ _
      | exact ih1 _ _ _ _ _ _ _
      | exact ih2 _ _ _ _ _ _ _ _ _ _ _ _ _ _
      | exact value_Check.mono _ _ _ _ _
      | exact LeO.none _
      | refine LeO.ite ?_ ?_
      | refine LeO.bind ?_ (fun _ => ?_)
set_option maxHeartbeats 8000000 in
set_option maxRecDepth 100000 in
theorem record_Check.calls (k : Nat) (a0_0 : Int) (a0_1 : Int) (a0_2 : Int) (A0_3 : Option Addr) (c0_3 : Nat) (l0_3 : List (S34)) (r : Int) (w : World) (hr0_3 : Kd.C k34 w A0_3 l0_3.length l0_3) (hc0_3 : l0_3.length ≤ c0_3) (hG : GL w) (h : record_Check.f k a0_0 a0_1 a0_2 l0_3 = some r) :
    Calls Tryd.prog 72 #[.agg #[.int .i64 a0_0, .int .i64 a0_1, .int .i64 a0_2, .slice A0_3 l0_3.length c0_3]] w fun e w' => e = .returned (.int .i64 r) ∧ Below w.heap.size w w' := by
  have hu50 := Tryd.underlying50
  have hu34 := Tryd.underlying34
  have HR0_3 := Aside0.mk hr0_3
  have HC0_3 := Aside0.mk hc0_3
  clear hr0_3 hc0_3
  have HB := Aside0.mk (Below.refl w.heap.size w)
  have HGL := Aside0.mk hG
  clear hG
  have H : ((record_Name.f a0_0).bind fun t104 => (if t104.toList = ([] : List UInt8) then (some 30) else (if a0_1 < 0 then (record_Check.j0 k true a0_0 a0_1 a0_2 l0_3) else (if a0_1 > 1099511627776 then (record_Check.j0 k true a0_0 a0_1 a0_2 l0_3) else (if a0_2 < 0 then (record_Check.j0 k true a0_0 a0_1 a0_2 l0_3) else (record_Check.j0 k (decide (a0_2 > 1073741824)) a0_0 a0_1 a0_2 l0_3)))))) = some r := h
  clear h
  replace H := Option.bind_eq_some_iff.mp H
  obtain ⟨t104, A20, H⟩ := H
  replace H : (if t104.toList = ([] : List UInt8) then (some 30) else (if a0_1 < 0 then (record_Check.j0 k true a0_0 a0_1 a0_2 l0_3) else (if a0_1 > 1099511627776 then (record_Check.j0 k true a0_0 a0_1 a0_2 l0_3) else (if a0_2 < 0 then (record_Check.j0 k true a0_0 a0_1 a0_2 l0_3) else (record_Check.j0 k (decide (a0_2 > 1073741824)) a0_0 a0_1 a0_2 l0_3))))) = some r := H
  have A2 := Aside0.mk A20
  clear A20
  by_cases c3 : t104.toList = ([] : List UInt8)
  · rw [if_pos c3] at H
    have c3b0 : (t104.toList == ([] : List UInt8)) = true := beq_iff_eq.mpr c3
    have c3b1 : (t104.toList != ([] : List UInt8)) = false := bne_eq_false_iff_eq.mpr c3
    clear c3
    obtain rfl := Option.some.inj H
    go_enter Tryd.func72, Tryd.ntmps72
    go_wp2_with (first | ((with_reducible refine gate_dst (N := 1) rfl ?_); refine box_event ?hg (N := 1) ?hd (cs := #[.int .i64 a0_0, .int .i64 a0_1, .int .i64 a0_2, .slice A0_3 l0_3.length c0_3]) (t := 50) ?hr ?_; (case hd => rfl); (case hg => rfl); (case hr => first | (go_simp; done) | (go_simp; rfl)); intro gb103 hg w4 hbox hb; have n0_ := Aside0.mk (below_step (by repeat (first | (with_reducible first | exact HB.out | apply below_alloc | apply pw_below_drewN | apply below_drew1) | exact HB.out)) hb); have n1_ := Aside0.mk (hbox); have n2_ := Aside0.mk ((by rw [hg]; exact (below_size (by repeat (first | (with_reducible first | exact HB.out | apply below_alloc | apply pw_below_drewN | apply below_drew1) | exact HB.out))) : w.heap.size ≤ gb103)); have n3_ := Aside0.mk ((by rw [hg]; exact (below_size (by repeat (first | (with_reducible first | exact HB.out | apply below_alloc | apply pw_below_drewN | apply below_drew1) | exact HB.out))) : w.heap.size ≤ gb103)); clear HB; have HB := n0_; have BK103 := n1_; have GW103 := n2_; have GE103 := n3_; clear n0_ n1_ n2_ n3_; clear hb hbox hg; have hcz5_0 : w4.cell? ⟨gb103, 0, none⟩ = some (.int .i64 a0_0) := (blk_cell BK103.out 0).trans rfl; have hcz5_1 : w4.cell? ⟨gb103, 1, none⟩ = some (.int .i64 a0_1) := (blk_cell BK103.out 1).trans rfl; have hcz5_2 : w4.cell? ⟨gb103, 2, none⟩ = some (.int .i64 a0_2) := (blk_cell BK103.out 2).trans rfl; have hcz5_3 : w4.cell? ⟨gb103, 3, none⟩ = some (.slice A0_3 l0_3.length c0_3) := (blk_cell BK103.out 3).trans rfl; have hfz5_0 := blk_frozen BK103.out 0; have hfz5_1 := blk_frozen BK103.out 1; have hfz5_2 := blk_frozen BK103.out 2; have hfz5_3 := blk_frozen BK103.out 3) | ((with_reducible refine gate_callee (f := 42) rfl ?_); refine goesL_ (some 11) rfl rfl Tryd.func42 (by kernel_rfl) rfl #[.int .i64 a0_0] rfl (by (try simp only [List.map_toArray, List.map_cons, List.map_nil]); first | done | rfl | (simp only [List.length_drop, List.length_take]; rfl)) ?_; (with_reducible refine (record_Name.calls a0_0 t104 _ ?side1 A2.out).mono ?_); (case side1 => refine GL.below HGL.out ?_; repeat (first | (with_reducible first | exact HB.out | apply below_alloc | apply pw_below_drewN | apply below_drew1 | refine below_set ?_ GE103.out) | exact HB.out)); rintro e w6 ⟨rfl, hb⟩; refine ⟨_, rfl, ?_⟩; have n0_ := Aside0.mk (blk_below (g := gb103) (o := .cells #[.int .i64 a0_0, .int .i64 a0_1, .int .i64 a0_2, .slice A0_3 l0_3.length c0_3] 50 (0, 0)) (by (with_reducible repeat (first | refine blk_drewN ?_ _ | refine blk_drew ?_ | refine blk_alloc ?_ _)); exact BK103.out) hb); have n1_ := Aside0.mk (below_step (by repeat (first | (with_reducible first | exact HB.out | apply below_alloc | apply pw_below_drewN | apply below_drew1 | refine below_set ?_ GE103.out) | exact HB.out)) hb); clear BK103; clear HB; have BK103 := n0_; have HB := n1_; clear n0_ n1_; (try clear hb); (try clear hb2); (try clear hk); (try clear hi)))
    go_ret
    exact ⟨by first | rfl | (simp [errW_none, errW_some] <;> rfl) | (simp [*, errW_none, errW_some] <;> rfl) | (simp only [isEmpty_ne_, isEmpty_eq_]; rfl) | (simp [*, isEmpty_ne_, isEmpty_eq_]; done), by repeat (first | (with_reducible first | exact HB.out | apply below_alloc | apply pw_below_drewN | apply below_drew1 | refine below_set ?_ GE103.out) | exact HB.out)⟩
  · rw [if_neg c3] at H
    have c3b0 : (t104.toList == ([] : List UInt8)) = false := beq_eq_false_iff_ne.mpr c3
    have c3b1 : (t104.toList != ([] : List UInt8)) = true := bne_iff_ne.mpr c3
    have HC7 := Aside0.mk H
    clear H
    go_enter Tryd.func72, Tryd.ntmps72
    go_upto_region 3 with (first | ((with_reducible refine gate_dst (N := 1) rfl ?_); refine box_event ?hg (N := 1) ?hd (cs := #[.int .i64 a0_0, .int .i64 a0_1, .int .i64 a0_2, .slice A0_3 l0_3.length c0_3]) (t := 50) ?hr ?_; (case hd => rfl); (case hg => rfl); (case hr => first | (go_simp; done) | (go_simp; rfl)); intro gb103 hg w8 hbox hb; have n0_ := Aside0.mk (below_step (by repeat (first | (with_reducible first | exact HB.out | apply below_alloc | apply pw_below_drewN | apply below_drew1) | exact HB.out)) hb); have n1_ := Aside0.mk (hbox); have n2_ := Aside0.mk ((by rw [hg]; exact (below_size (by repeat (first | (with_reducible first | exact HB.out | apply below_alloc | apply pw_below_drewN | apply below_drew1) | exact HB.out))) : w.heap.size ≤ gb103)); have n3_ := Aside0.mk ((by rw [hg]; exact (below_size (by repeat (first | (with_reducible first | exact HB.out | apply below_alloc | apply pw_below_drewN | apply below_drew1) | exact HB.out))) : w.heap.size ≤ gb103)); clear HB; have HB := n0_; have BK103 := n1_; have GW103 := n2_; have GE103 := n3_; clear n0_ n1_ n2_ n3_; clear hb hbox hg; have hcz9_0 : w8.cell? ⟨gb103, 0, none⟩ = some (.int .i64 a0_0) := (blk_cell BK103.out 0).trans rfl; have hcz9_1 : w8.cell? ⟨gb103, 1, none⟩ = some (.int .i64 a0_1) := (blk_cell BK103.out 1).trans rfl; have hcz9_2 : w8.cell? ⟨gb103, 2, none⟩ = some (.int .i64 a0_2) := (blk_cell BK103.out 2).trans rfl; have hcz9_3 : w8.cell? ⟨gb103, 3, none⟩ = some (.slice A0_3 l0_3.length c0_3) := (blk_cell BK103.out 3).trans rfl; have hfz9_0 := blk_frozen BK103.out 0; have hfz9_1 := blk_frozen BK103.out 1; have hfz9_2 := blk_frozen BK103.out 2; have hfz9_3 := blk_frozen BK103.out 3) | ((with_reducible refine gate_callee (f := 42) rfl ?_); refine goesL_ (some 11) rfl rfl Tryd.func42 (by kernel_rfl) rfl #[.int .i64 a0_0] rfl (by (try simp only [List.map_toArray, List.map_cons, List.map_nil]); first | done | rfl | (simp only [List.length_drop, List.length_take]; rfl)) ?_; (with_reducible refine (record_Name.calls a0_0 t104 _ ?side1 A2.out).mono ?_); (case side1 => refine GL.below HGL.out ?_; repeat (first | (with_reducible first | exact HB.out | apply below_alloc | apply pw_below_drewN | apply below_drew1 | refine below_set ?_ GE103.out) | exact HB.out)); rintro e w10 ⟨rfl, hb⟩; refine ⟨_, rfl, ?_⟩; have n0_ := Aside0.mk (blk_below (g := gb103) (o := .cells #[.int .i64 a0_0, .int .i64 a0_1, .int .i64 a0_2, .slice A0_3 l0_3.length c0_3] 50 (0, 0)) (by (with_reducible repeat (first | refine blk_drewN ?_ _ | refine blk_drew ?_ | refine blk_alloc ?_ _)); exact BK103.out) hb); have n1_ := Aside0.mk (below_step (by repeat (first | (with_reducible first | exact HB.out | apply below_alloc | apply pw_below_drewN | apply below_drew1 | refine below_set ?_ GE103.out) | exact HB.out)) hb); clear BK103; clear HB; have BK103 := n0_; have HB := n1_; clear n0_ n1_; (try clear hb); (try clear hb2); (try clear hk); (try clear hi)))
    (try simp only [Act.put, List.setIfInBounds_toArray, List.set_cons_zero, List.set_cons_succ])
    go_cut [13] (fun v13 wc => ∃ (kq : Nat) (x13_6 : Bool), v13 = .bool x13_6 ∧ Aside0 (record_Check.j0 kq x13_6 a0_0 a0_1 a0_2 l0_3 = some r) ∧ Aside0 (kq ≤ k) ∧ Aside0 (wc.heap[gb103]? = some (.cells #[.int .i64 a0_0, .int .i64 a0_1, .int .i64 a0_2, (.slice A0_3 l0_3.length c0_3)] 50 (0, 0))) ∧ Aside0 (Below w.heap.size w wc))
    case first =>
      have H := HC7.out
      clear HC7
      by_cases c11 : a0_1 < 0
      · rw [if_pos c11] at H
        have c11b0 : decide (a0_1 < 0) = true := decide_eq_true c11
        clear c11
        (first | rw [c11b0] | (simp only [i64_w, i32_w]; rw [c11b0]) | skip)
        have H' := Aside0.mk H
        clear H
        have hcz12_0 : w10.cell? ⟨gb103, 0, none⟩ = some (.int .i64 a0_0) := (blk_cell BK103.out 0).trans rfl
        have hcz12_1 : w10.cell? ⟨gb103, 1, none⟩ = some (.int .i64 a0_1) := (blk_cell BK103.out 1).trans rfl
        have hcz12_2 : w10.cell? ⟨gb103, 2, none⟩ = some (.int .i64 a0_2) := (blk_cell BK103.out 2).trans rfl
        have hcz12_3 : w10.cell? ⟨gb103, 3, none⟩ = some (.slice A0_3 l0_3.length c0_3) := (blk_cell BK103.out 3).trans rfl
        have hfz12_0 := blk_frozen BK103.out 0
        have hfz12_1 := blk_frozen BK103.out 1
        have hfz12_2 := blk_frozen BK103.out 2
        have hfz12_3 := blk_frozen BK103.out 3
        go_wp2
        go_meet
        case rel => exact ⟨_, (true), (by first | rfl | (simp; done) | (simp [*]; done) | (simp only [isEmpty_ne_]; done)), H', ⟨by first | omega | exact Nat.le_refl _⟩, ⟨by (with_reducible repeat (first | refine blk_drewN ?_ _ | refine blk_drew ?_ | refine blk_alloc ?_ _)); exact BK103.out⟩, ⟨by repeat (first | (with_reducible first | exact HB.out | apply below_alloc | apply pw_below_drewN | apply below_drew1 | refine below_set ?_ GE103.out) | exact HB.out)⟩⟩
      · rw [if_neg c11] at H
        have c11b0 : decide (a0_1 < 0) = false := decide_eq_false c11
        clear c11
        (first | rw [c11b0] | (simp only [i64_w, i32_w]; rw [c11b0]) | skip)
        by_cases c13 : a0_1 > 1099511627776
        · rw [if_pos c13] at H
          have c13b0 : decide (1099511627776 < a0_1) = true := decide_eq_true c13
          clear c13
          have H' := Aside0.mk H
          clear H
          have hcz14_0 : w10.cell? ⟨gb103, 0, none⟩ = some (.int .i64 a0_0) := (blk_cell BK103.out 0).trans rfl
          have hcz14_1 : w10.cell? ⟨gb103, 1, none⟩ = some (.int .i64 a0_1) := (blk_cell BK103.out 1).trans rfl
          have hcz14_2 : w10.cell? ⟨gb103, 2, none⟩ = some (.int .i64 a0_2) := (blk_cell BK103.out 2).trans rfl
          have hcz14_3 : w10.cell? ⟨gb103, 3, none⟩ = some (.slice A0_3 l0_3.length c0_3) := (blk_cell BK103.out 3).trans rfl
          have hfz14_0 := blk_frozen BK103.out 0
          have hfz14_1 := blk_frozen BK103.out 1
          have hfz14_2 := blk_frozen BK103.out 2
          have hfz14_3 := blk_frozen BK103.out 3
          go_wp2
          go_meet
          case rel => exact ⟨_, (true), (by first | rfl | (simp; done) | (simp [*]; done) | (simp only [isEmpty_ne_]; done)), H', ⟨by first | omega | exact Nat.le_refl _⟩, ⟨by (with_reducible repeat (first | refine blk_drewN ?_ _ | refine blk_drew ?_ | refine blk_alloc ?_ _)); exact BK103.out⟩, ⟨by repeat (first | (with_reducible first | exact HB.out | apply below_alloc | apply pw_below_drewN | apply below_drew1 | refine below_set ?_ GE103.out) | exact HB.out)⟩⟩
        · rw [if_neg c13] at H
          have c13b0 : decide (1099511627776 < a0_1) = false := decide_eq_false c13
          clear c13
          by_cases c15 : a0_2 < 0
          · rw [if_pos c15] at H
            have c15b0 : decide (a0_2 < 0) = true := decide_eq_true c15
            clear c15
            have H' := Aside0.mk H
            clear H
            have hcz16_0 : w10.cell? ⟨gb103, 0, none⟩ = some (.int .i64 a0_0) := (blk_cell BK103.out 0).trans rfl
            have hcz16_1 : w10.cell? ⟨gb103, 1, none⟩ = some (.int .i64 a0_1) := (blk_cell BK103.out 1).trans rfl
            have hcz16_2 : w10.cell? ⟨gb103, 2, none⟩ = some (.int .i64 a0_2) := (blk_cell BK103.out 2).trans rfl
            have hcz16_3 : w10.cell? ⟨gb103, 3, none⟩ = some (.slice A0_3 l0_3.length c0_3) := (blk_cell BK103.out 3).trans rfl
            have hfz16_0 := blk_frozen BK103.out 0
            have hfz16_1 := blk_frozen BK103.out 1
            have hfz16_2 := blk_frozen BK103.out 2
            have hfz16_3 := blk_frozen BK103.out 3
            go_wp2
            go_meet
            case rel => exact ⟨_, (true), (by first | rfl | (simp; done) | (simp [*]; done) | (simp only [isEmpty_ne_]; done)), H', ⟨by first | omega | exact Nat.le_refl _⟩, ⟨by (with_reducible repeat (first | refine blk_drewN ?_ _ | refine blk_drew ?_ | refine blk_alloc ?_ _)); exact BK103.out⟩, ⟨by repeat (first | (with_reducible first | exact HB.out | apply below_alloc | apply pw_below_drewN | apply below_drew1 | refine below_set ?_ GE103.out) | exact HB.out)⟩⟩
          · rw [if_neg c15] at H
            have c15b0 : decide (a0_2 < 0) = false := decide_eq_false c15
            clear c15
            have H' := Aside0.mk H
            clear H
            have hcz17_0 : w10.cell? ⟨gb103, 0, none⟩ = some (.int .i64 a0_0) := (blk_cell BK103.out 0).trans rfl
            have hcz17_1 : w10.cell? ⟨gb103, 1, none⟩ = some (.int .i64 a0_1) := (blk_cell BK103.out 1).trans rfl
            have hcz17_2 : w10.cell? ⟨gb103, 2, none⟩ = some (.int .i64 a0_2) := (blk_cell BK103.out 2).trans rfl
            have hcz17_3 : w10.cell? ⟨gb103, 3, none⟩ = some (.slice A0_3 l0_3.length c0_3) := (blk_cell BK103.out 3).trans rfl
            have hfz17_0 := blk_frozen BK103.out 0
            have hfz17_1 := blk_frozen BK103.out 1
            have hfz17_2 := blk_frozen BK103.out 2
            have hfz17_3 := blk_frozen BK103.out 3
            go_wp2
            go_meet
            case rel => exact ⟨_, (decide (a0_2 > 1073741824)), (by first | rfl | (simp; done) | (simp [*]; done) | (simp only [isEmpty_ne_]; done)), H', ⟨by first | omega | exact Nat.le_refl _⟩, ⟨by (with_reducible repeat (first | refine blk_drewN ?_ _ | refine blk_drew ?_ | refine blk_alloc ?_ _)); exact BK103.out⟩, ⟨by repeat (first | (with_reducible first | exact HB.out | apply below_alloc | apply pw_below_drewN | apply below_drew1 | refine below_set ?_ GE103.out) | exact HB.out)⟩⟩
    case rest =>
      clear HC7
      try clear c1
      try clear p2
      try clear c3
      try clear c3b0
      try clear c3b1
      try clear c4
      try clear c7
      try clear c11
      try clear c11b0
      try clear c13
      try clear c13b0
      try clear c15
      try clear c15b0
      try clear hcz12_0
      try clear hcz12_1
      try clear hcz12_2
      try clear hcz12_3
      try clear hcz14_0
      try clear hcz14_1
      try clear hcz14_2
      try clear hcz14_3
      try clear hcz16_0
      try clear hcz16_1
      try clear hcz16_2
      try clear hcz16_3
      try clear hcz17_0
      try clear hcz17_1
      try clear hcz17_2
      try clear hcz17_3
      try clear hcz5_0
      try clear hcz5_1
      try clear hcz5_2
      try clear hcz5_3
      try clear hcz9_0
      try clear hcz9_1
      try clear hcz9_2
      try clear hcz9_3
      try clear hfz12_0
      try clear hfz12_1
      try clear hfz12_2
      try clear hfz12_3
      try clear hfz14_0
      try clear hfz14_1
      try clear hfz14_2
      try clear hfz14_3
      try clear hfz16_0
      try clear hfz16_1
      try clear hfz16_2
      try clear hfz16_3
      try clear hfz17_0
      try clear hfz17_1
      try clear hfz17_2
      try clear hfz17_3
      try clear hfz5_0
      try clear hfz5_1
      try clear hfz5_2
      try clear hfz5_3
      try clear hfz9_0
      try clear hfz9_1
      try clear hfz9_2
      try clear hfz9_3
      obtain ⟨kq, x13_6, rfl, HA, HJ6, BK103, HB⟩ := hcut
      cases kq with
      | zero => exact absurd HA.out (by simp [record_Check.j0])
      | succ kj6 =>
        have H := HA.out
        clear HA
        simp only [record_Check.j0] at H
        by_cases c18 : x13_6 = true
        · subst c18
          have H1 : (some 31) = some r := by rw [if_pos rfl] at H; exact H
          clear H
          have H := H1
          clear H1
          obtain rfl := Option.some.inj H
          go_wp2
          go_ret
          exact ⟨by first | rfl | (simp [errW_none, errW_some] <;> rfl) | (simp [*, errW_none, errW_some] <;> rfl) | (simp only [isEmpty_ne_, isEmpty_eq_]; rfl) | (simp [*, isEmpty_ne_, isEmpty_eq_]; done), by repeat (first | (with_reducible first | exact HB.out | apply below_alloc | apply pw_below_drewN | apply below_drew1 | refine below_set ?_ GE103.out) | exact HB.out)⟩
        · replace c18 := Bool.eq_false_iff.mpr c18
          subst c18
          have H1 : (if (l0_3.length : Int) > 24 then (some 32) else (record_Check.l0 kj6 l0_3 (l0_3.length : Int) 0 a0_0 a0_1 a0_2 l0_3)) = some r := by rw [if_neg (show ¬ (false = true) by decide)] at H; exact H
          clear H
          have H := H1
          clear H1
          by_cases c19 : (l0_3.length : Int) > 24
          · rw [if_pos c19] at H
            have c19b0 : decide (24 < (l0_3.length : Int)) = true := decide_eq_true c19
            have c19b1 : decide (24 < l0_3.length) = true := decide_eq_true (by omega)
            clear c19
            obtain rfl := Option.some.inj H
            have hcz20_0 : wc.cell? ⟨gb103, 0, none⟩ = some (.int .i64 a0_0) := (blk_cell BK103.out 0).trans rfl
            have hcz20_1 : wc.cell? ⟨gb103, 1, none⟩ = some (.int .i64 a0_1) := (blk_cell BK103.out 1).trans rfl
            have hcz20_2 : wc.cell? ⟨gb103, 2, none⟩ = some (.int .i64 a0_2) := (blk_cell BK103.out 2).trans rfl
            have hcz20_3 : wc.cell? ⟨gb103, 3, none⟩ = some (.slice A0_3 l0_3.length c0_3) := (blk_cell BK103.out 3).trans rfl
            have hfz20_0 := blk_frozen BK103.out 0
            have hfz20_1 := blk_frozen BK103.out 1
            have hfz20_2 := blk_frozen BK103.out 2
            have hfz20_3 := blk_frozen BK103.out 3
            go_wp2
            go_ret
            exact ⟨by first | rfl | (simp [errW_none, errW_some] <;> rfl) | (simp [*, errW_none, errW_some] <;> rfl) | (simp only [isEmpty_ne_, isEmpty_eq_]; rfl) | (simp [*, isEmpty_ne_, isEmpty_eq_]; done), by repeat (first | (with_reducible first | exact HB.out | apply below_alloc | apply pw_below_drewN | apply below_drew1 | refine below_set ?_ GE103.out) | exact HB.out)⟩
          · rw [if_neg c19] at H
            have c19b0 : decide (24 < (l0_3.length : Int)) = false := decide_eq_false c19
            have c19b1 : decide (24 < l0_3.length) = false := decide_eq_false (by omega)
            clear c19
            have H' := Aside0.mk H
            clear H
            have hcz21_0 : wc.cell? ⟨gb103, 0, none⟩ = some (.int .i64 a0_0) := (blk_cell BK103.out 0).trans rfl
            have hcz21_1 : wc.cell? ⟨gb103, 1, none⟩ = some (.int .i64 a0_1) := (blk_cell BK103.out 1).trans rfl
            have hcz21_2 : wc.cell? ⟨gb103, 2, none⟩ = some (.int .i64 a0_2) := (blk_cell BK103.out 2).trans rfl
            have hcz21_3 : wc.cell? ⟨gb103, 3, none⟩ = some (.slice A0_3 l0_3.length c0_3) := (blk_cell BK103.out 3).trans rfl
            have hfz21_0 := blk_frozen BK103.out 0
            have hfz21_1 := blk_frozen BK103.out 1
            have hfz21_2 := blk_frozen BK103.out 2
            have hfz21_3 := blk_frozen BK103.out 3
            go_wp2
            go_loopg [40] kj6 (fun kq v40 w' => ∃ (x40_2 : Int), v40 = .int .i64 x40_2 ∧ Aside0 (record_Check.l0 kq l0_3 (l0_3.length : Int) x40_2 a0_0 a0_1 a0_2 l0_3 = some r) ∧ Aside0 (kq ≤ kj6) ∧ Aside0 (w'.heap[gb103]? = some (.cells #[.int .i64 a0_0, .int .i64 a0_1, .int .i64 a0_2, (.slice A0_3 l0_3.length c0_3)] 50 (0, 0))) ∧ Aside0 (Below w.heap.size w w'))
            case atStart => exact ⟨(0), (by first | rfl | (simp; done) | (simp [*]; done) | (simp only [isEmpty_ne_]; done)), H', ⟨Nat.le_refl _⟩, ⟨by (with_reducible repeat (first | refine blk_drewN ?_ _ | refine blk_drew ?_ | refine blk_alloc ?_ _)); exact BK103.out⟩, ⟨by repeat (first | (with_reducible first | exact HB.out | apply below_alloc | apply pw_below_drewN | apply below_drew1 | refine below_set ?_ GE103.out) | exact HB.out)⟩⟩
            case round =>
              clear H'
              try clear c1
              try clear p2
              try clear c3
              try clear c3b0
              try clear c3b1
              try clear c4
              try clear c7
              try clear c11
              try clear c11b0
              try clear c13
              try clear c13b0
              try clear c15
              try clear c15b0
              try clear c18
              try clear c19
              try clear c19b0
              try clear c19b1
              try clear hcz12_0
              try clear hcz12_1
              try clear hcz12_2
              try clear hcz12_3
              try clear hcz14_0
              try clear hcz14_1
              try clear hcz14_2
              try clear hcz14_3
              try clear hcz16_0
              try clear hcz16_1
              try clear hcz16_2
              try clear hcz16_3
              try clear hcz17_0
              try clear hcz17_1
              try clear hcz17_2
              try clear hcz17_3
              try clear hcz20_0
              try clear hcz20_1
              try clear hcz20_2
              try clear hcz20_3
              try clear hcz21_0
              try clear hcz21_1
              try clear hcz21_2
              try clear hcz21_3
              try clear hcz5_0
              try clear hcz5_1
              try clear hcz5_2
              try clear hcz5_3
              try clear hcz9_0
              try clear hcz9_1
              try clear hcz9_2
              try clear hcz9_3
              try clear hfz12_0
              try clear hfz12_1
              try clear hfz12_2
              try clear hfz12_3
              try clear hfz14_0
              try clear hfz14_1
              try clear hfz14_2
              try clear hfz14_3
              try clear hfz16_0
              try clear hfz16_1
              try clear hfz16_2
              try clear hfz16_3
              try clear hfz17_0
              try clear hfz17_1
              try clear hfz17_2
              try clear hfz17_3
              try clear hfz20_0
              try clear hfz20_1
              try clear hfz20_2
              try clear hfz20_3
              try clear hfz21_0
              try clear hfz21_1
              try clear hfz21_2
              try clear hfz21_3
              try clear hfz5_0
              try clear hfz5_1
              try clear hfz5_2
              try clear hfz5_3
              try clear hfz9_0
              try clear hfz9_1
              try clear hfz9_2
              try clear hfz9_3
              try clear p2
              obtain ⟨x40_2, rfl, HA, HK2, BK103, HB⟩ := hrel
              cases gk with
              | zero => exact absurd HA.out (by simp [record_Check.l0])
              | succ k2 =>
                have H := HA.out
                clear HA
                simp only [record_Check.l0] at H
                by_cases c22 : x40_2 < (l0_3.length : Int)
                · rw [if_pos c22] at H
                  have c22b0 : decide (x40_2 < (l0_3.length : Int)) = true := decide_eq_true c22
                  clear c22
                  by_cases c23 : 0 ≤ x40_2
                  · rw [if_pos c23] at H
                    have c23b0 : decide (0 ≤ x40_2) = true := decide_eq_true c23
                    clear c23
                    by_cases c24 : x40_2 < (l0_3.length : Int)
                    · rw [if_pos c24] at H
                      have c24b0 : decide (x40_2 < (l0_3.length : Int)) = true := decide_eq_true c24
                      clear c24
                      replace H := Option.bind_eq_some_iff.mp H
                      obtain ⟨t107, A250, H⟩ := H
                      replace H : (if t107 = 0 then (if x40_2 ≤ (l0_3.length : Int) then ((some (l0_3.take (x40_2 : Int).toNat : List (S34))).bind fun y108 => (record_Check.l1 k2 l0_3 (l0_3.length : Int) x40_2 y108 (y108.length : Int) 0 a0_0 a0_1 a0_2 l0_3 ((rd_T34 l0_3 x40_2).f0) ((rd_T34 l0_3 x40_2).f1) ((rd_T34 l0_3 x40_2).f2) ((rd_T34 l0_3 x40_2).f3))) else (none)) else (some t107)) = some r := H
                      have A25 := Aside0.mk A250
                      clear A250
                      by_cases c26 : t107 = 0
                      · rw [if_pos c26] at H
                        have c26b0 : (t107 == 0) = true := beq_iff_eq.mpr c26
                        have c26b1 : (t107 != 0) = false := bne_eq_false_iff_eq.mpr c26
                        clear c26
                        have c27b0 := eq_true (of_decide_eq_true (by first | (with_reducible assumption) | assumption) : 0 ≤ x40_2)
                        by_cases c28 : x40_2 ≤ (l0_3.length : Int)
                        · rw [if_pos c28] at H
                          have c28b0 := eq_true c28
                          have c28b1 : decide (x40_2 ≤ (l0_3.length : Int)) = true := decide_eq_true c28
                          clear c28
                          obtain ⟨y108, hy108⟩ : ∃ y_ : List (S34), y_ = (l0_3.take (x40_2 : Int).toNat) := ⟨_, rfl⟩
                          replace H : (record_Check.l1 k2 l0_3 (l0_3.length : Int) x40_2 y108 (y108.length : Int) 0 a0_0 a0_1 a0_2 l0_3 ((rd_T34 l0_3 x40_2).f0) ((rd_T34 l0_3 x40_2).f1) ((rd_T34 l0_3 x40_2).f2) ((rd_T34 l0_3 x40_2).f3)) = some r := by first | (rw [hy108]; with_reducible exact H) | (have H2_ := (Option.bind_some _ _).symm.trans H; rw [hy108]; with_reducible exact H2_) | (have H2_ := (Option.bind_some _ _).symm.trans H; with_reducible exact H2_) | with_reducible exact H | (rw [hy108]; exact H) | exact H
                          have Ny108 := Aside0.mk hy108
                          clear hy108
                          have H' := Aside0.mk H
                          clear H
                          have p105 : 0 ≤ (x40_2 : Int) := of_decide_eq_true (by first | (with_reducible assumption) | assumption)
                          have q105 : x40_2 < (l0_3.length : Int) := of_decide_eq_true (by first | (with_reducible assumption) | assumption)
                          obtain ⟨ad105, e105, hx105_0, hx105_1, hx105_2, hx105_3⟩ := at_T34 HR0_3.out x40_2 p105 q105
                          cases e105
                          replace hx105_0 := (HB.out.cell (World.block_lt_of_cell? w _ hx105_0)).trans hx105_0
                          replace hx105_1 := (HB.out.cell (World.block_lt_of_cell? w _ hx105_1)).trans hx105_1
                          replace hx105_2 := (HB.out.cell (World.block_lt_of_cell? w _ hx105_2)).trans hx105_2
                          replace hx105_3 := (HB.out.cell (World.block_lt_of_cell? w _ hx105_3)).trans hx105_3
                          replace p105 := eq_true p105
                          replace q105 := eq_true q105
                          go_wp2_with (first | ((with_reducible refine gate_dst (N := 4) rfl ?_); refine box_event ?hg (N := 4) ?hd (cs := #[.string (⟨#[]⟩ : ByteArray), .int .i64 0, .int .i64 0, .string (⟨#[]⟩ : ByteArray)]) (t := 34) ?hr ?_; (case hd => rfl); (case hg => rfl); (case hr => first | (go_simp; done) | (go_simp; rfl)); intro gb106 hg w29 hbox hb; have n0_ := Aside0.mk (blk_below (g := gb103) (o := .cells #[.int .i64 a0_0, .int .i64 a0_1, .int .i64 a0_2, .slice (some ad105) l0_3.length c0_3] 50 (0, 0)) (by (with_reducible repeat (first | refine blk_drewN ?_ _ | refine blk_drew ?_ | refine blk_alloc ?_ _)); exact BK103.out) hb); have n1_ := Aside0.mk (below_step (by repeat (first | (with_reducible first | exact HB.out | apply below_alloc | apply pw_below_drewN | apply below_drew1 | refine below_set ?_ GE103.out) | exact HB.out)) hb); have n2_ := Aside0.mk (hbox); have n3_ := Aside0.mk ((by rw [hg]; exact (below_size (by repeat (first | (with_reducible first | exact HB.out | apply below_alloc | apply pw_below_drewN | apply below_drew1 | refine below_set ?_ GE103.out) | exact HB.out))) : w.heap.size ≤ gb106)); have n4_ := Aside0.mk ((by rw [hg]; exact (below_size (by repeat (first | (with_reducible first | exact HB.out | apply below_alloc | apply pw_below_drewN | apply below_drew1 | refine below_set ?_ GE103.out) | exact HB.out))) : w.heap.size ≤ gb106)); have n5_ := Aside0.mk ((by rw [hg]; exact Nat.ne_of_lt (blk_lt (g := gb103) (o := .cells #[.int .i64 a0_0, .int .i64 a0_1, .int .i64 a0_2, .slice (some ad105) l0_3.length c0_3] 50 (0, 0)) (by (with_reducible repeat (first | refine blk_drewN ?_ _ | refine blk_drew ?_ | refine blk_alloc ?_ _)); exact BK103.out)) : gb103 ≠ gb106)); have n6_ := Aside0.mk ((by rw [hg]; exact Nat.ne_of_gt (blk_lt (g := gb103) (o := .cells #[.int .i64 a0_0, .int .i64 a0_1, .int .i64 a0_2, .slice (some ad105) l0_3.length c0_3] 50 (0, 0)) (by (with_reducible repeat (first | refine blk_drewN ?_ _ | refine blk_drew ?_ | refine blk_alloc ?_ _)); exact BK103.out)) : gb106 ≠ gb103)); clear BK103; clear HB; have BK103 := n0_; have HB := n1_; have BK106 := n2_; have GW106 := n3_; have GE106 := n4_; have NB103_106 := n5_; have NB106_103 := n6_; clear n0_ n1_ n2_ n3_ n4_ n5_ n6_; clear hb hbox hg; have hnb30 := NB106_103.out; have hnc30 := NB103_106.out; have hcz31_0 : w29.cell? ⟨gb106, 0, none⟩ = some (.string (⟨#[]⟩ : ByteArray)) := (blk_cell BK106.out 0).trans rfl; have hcz31_1 : w29.cell? ⟨gb106, 1, none⟩ = some (.int .i64 0) := (blk_cell BK106.out 1).trans rfl; have hcz31_2 : w29.cell? ⟨gb106, 2, none⟩ = some (.int .i64 0) := (blk_cell BK106.out 2).trans rfl; have hcz31_3 : w29.cell? ⟨gb106, 3, none⟩ = some (.string (⟨#[]⟩ : ByteArray)) := (blk_cell BK106.out 3).trans rfl; have hfz31_0 := blk_frozen BK106.out 0; have hfz31_1 := blk_frozen BK106.out 1; have hfz31_2 := blk_frozen BK106.out 2; have hfz31_3 := blk_frozen BK106.out 3) | ((with_reducible refine gate_callee (f := 116) rfl ?_); refine goesL_ (some 46) rfl rfl Tryd.func116 (by kernel_rfl) rfl #[.agg #[.string ((rd_T34 l0_3 x40_2).f0), .int .i64 ((rd_T34 l0_3 x40_2).f1), .int .i64 ((rd_T34 l0_3 x40_2).f2), .string ((rd_T34 l0_3 x40_2).f3)]] rfl (by (try simp only [List.map_toArray, List.map_cons, List.map_nil]); first | done | rfl | (simp only [List.length_drop, List.length_take]; rfl)) ?_; (with_reducible refine (value_Check.calls k2 ((rd_T34 l0_3 x40_2).f0) ((rd_T34 l0_3 x40_2).f1) ((rd_T34 l0_3 x40_2).f2) ((rd_T34 l0_3 x40_2).f3) t107 _ A25.out).mono ?_); rintro e w32 ⟨rfl, hb⟩; refine ⟨_, rfl, ?_⟩; have n0_ := Aside0.mk (blk_below (g := gb103) (o := .cells #[.int .i64 a0_0, .int .i64 a0_1, .int .i64 a0_2, .slice (some ad105) l0_3.length c0_3] 50 (0, 0)) (by (with_reducible repeat (first | refine blk_drewN ?_ _ | refine blk_drew ?_ | refine blk_alloc ?_ _)); refine blk_far ?_ NB103_106.out _; (with_reducible repeat (first | refine blk_drewN ?_ _ | refine blk_drew ?_ | refine blk_alloc ?_ _)); refine blk_far ?_ NB103_106.out _; (with_reducible repeat (first | refine blk_drewN ?_ _ | refine blk_drew ?_ | refine blk_alloc ?_ _)); refine blk_far ?_ NB103_106.out _; (with_reducible repeat (first | refine blk_drewN ?_ _ | refine blk_drew ?_ | refine blk_alloc ?_ _)); refine blk_far ?_ NB103_106.out _; (with_reducible repeat (first | refine blk_drewN ?_ _ | refine blk_drew ?_ | refine blk_alloc ?_ _)); exact BK103.out) hb); have n1_ := Aside0.mk (blk_below (g := gb106) (o := .cells #[.string ((rd_T34 l0_3 x40_2).f0), .int .i64 ((rd_T34 l0_3 x40_2).f1), .int .i64 ((rd_T34 l0_3 x40_2).f2), .string ((rd_T34 l0_3 x40_2).f3)] 34 (0, 0)) (by (with_reducible repeat (first | refine blk_drewN ?_ _ | refine blk_drew ?_ | refine blk_alloc ?_ _)); refine blk_put (cs := #[.string ((rd_T34 l0_3 x40_2).f0), .int .i64 ((rd_T34 l0_3 x40_2).f1), .int .i64 ((rd_T34 l0_3 x40_2).f2), .string (⟨#[]⟩ : ByteArray)]) ?_ 3 _ rfl; (with_reducible repeat (first | refine blk_drewN ?_ _ | refine blk_drew ?_ | refine blk_alloc ?_ _)); refine blk_put (cs := #[.string ((rd_T34 l0_3 x40_2).f0), .int .i64 ((rd_T34 l0_3 x40_2).f1), .int .i64 0, .string (⟨#[]⟩ : ByteArray)]) ?_ 2 _ rfl; (with_reducible repeat (first | refine blk_drewN ?_ _ | refine blk_drew ?_ | refine blk_alloc ?_ _)); refine blk_put (cs := #[.string ((rd_T34 l0_3 x40_2).f0), .int .i64 0, .int .i64 0, .string (⟨#[]⟩ : ByteArray)]) ?_ 1 _ rfl; (with_reducible repeat (first | refine blk_drewN ?_ _ | refine blk_drew ?_ | refine blk_alloc ?_ _)); refine blk_put (cs := #[.string (⟨#[]⟩ : ByteArray), .int .i64 0, .int .i64 0, .string (⟨#[]⟩ : ByteArray)]) ?_ 0 _ rfl; (with_reducible repeat (first | refine blk_drewN ?_ _ | refine blk_drew ?_ | refine blk_alloc ?_ _)); exact BK106.out) hb); have n2_ := Aside0.mk (below_step (by repeat (first | (with_reducible first | exact HB.out | apply below_alloc | apply pw_below_drewN | apply below_drew1 | refine below_set ?_ GE103.out | refine below_set ?_ GE106.out) | exact HB.out)) hb); clear BK103; clear BK106; clear HB; have BK103 := n0_; have BK106 := n1_; have HB := n2_; clear n0_ n1_ n2_; (try clear hb); (try clear hb2); (try clear hk); (try clear hi); have hcz33_0 : w32.cell? ⟨gb103, 0, none⟩ = some (.int .i64 a0_0) := (blk_cell BK103.out 0).trans rfl; have hcz33_1 : w32.cell? ⟨gb103, 1, none⟩ = some (.int .i64 a0_1) := (blk_cell BK103.out 1).trans rfl; have hcz33_2 : w32.cell? ⟨gb103, 2, none⟩ = some (.int .i64 a0_2) := (blk_cell BK103.out 2).trans rfl; have hcz33_3 : w32.cell? ⟨gb103, 3, none⟩ = some (.slice (some ad105) l0_3.length c0_3) := (blk_cell BK103.out 3).trans rfl; have hfz33_0 := blk_frozen BK103.out 0; have hfz33_1 := blk_frozen BK103.out 1; have hfz33_2 := blk_frozen BK103.out 2; have hfz33_3 := blk_frozen BK103.out 3; have q34 : (x40_2 : Int) ≤ ((l0_3.length : Int) : Int) := of_decide_eq_true (by first | (with_reducible assumption) | assumption); obtain ⟨i034, hi034, _, hsz34, _⟩ := info_parts info34; have hroom34 : l0_3.length ≤ c0_3 := HC0_3.out; have hC34 : Kd.C k34 _ (some ad105) l0_3.length l0_3 := HR0_3.out; have hcut34 := cut_to (P := Tryd.prog) 35 34 .i64 Tryd.underlying35 hi034 (some ad105) l0_3.length c0_3 x40_2 (of_decide_eq_true (by first | (with_reducible assumption) | assumption)) q34 hroom34; have hr34 := Kd.C_take (m := (x40_2 : Int).toNat) hC34 (by omega); have hy34 : y108.length = (x40_2 : Int).toNat := (by rw [Ny108.out, List.length_take]; omega); rw [← Ny108.out] at hr34; rw [← hy34] at hcut34; have HR111 := Aside0.mk hr34; have HC111 := Aside0.mk (show y108.length ≤ c0_3 from by omega); clear hr34 hC34 hroom34 hi034 hsz34; have KY34 := Aside0.mk hy34; clear hy34; replace q34 := eq_true q34))
                          go_loopg [55] k2 (fun kq v55 w' => ∃ (x55_3 : Int), v55 = .int .i64 x55_3 ∧ Aside0 (record_Check.l1 kq l0_3 (l0_3.length : Int) x40_2 y108 (y108.length : Int) x55_3 a0_0 a0_1 a0_2 l0_3 ((rd_T34 l0_3 x40_2).f0) ((rd_T34 l0_3 x40_2).f1) ((rd_T34 l0_3 x40_2).f2) ((rd_T34 l0_3 x40_2).f3) = some r) ∧ Aside0 (kq ≤ k2) ∧ Aside0 (w'.heap[gb103]? = some (.cells #[.int .i64 a0_0, .int .i64 a0_1, .int .i64 a0_2, (.slice (some ad105) l0_3.length c0_3)] 50 (0, 0))) ∧ Aside0 (w'.heap[gb106]? = some (.cells #[.string ((rd_T34 l0_3 x40_2).f0), .int .i64 ((rd_T34 l0_3 x40_2).f1), .int .i64 ((rd_T34 l0_3 x40_2).f2), .string ((rd_T34 l0_3 x40_2).f3)] 34 (0, 0))) ∧ Aside0 (Below w.heap.size w w'))
                          case atStart => exact ⟨(0), (by first | rfl | (simp; done) | (simp [*]; done) | (simp only [isEmpty_ne_]; done)), H', ⟨Nat.le_refl _⟩, ⟨by (with_reducible repeat (first | refine blk_drewN ?_ _ | refine blk_drew ?_ | refine blk_alloc ?_ _)); exact BK103.out⟩, ⟨by (with_reducible repeat (first | refine blk_drewN ?_ _ | refine blk_drew ?_ | refine blk_alloc ?_ _)); exact BK106.out⟩, ⟨by repeat (first | (with_reducible first | exact HB.out | apply below_alloc | apply pw_below_drewN | apply below_drew1 | refine below_set ?_ GE103.out | refine below_set ?_ GE106.out) | exact HB.out)⟩⟩
                          case round =>
                            clear H'
                            try clear c1
                            try clear p1
                            try clear q1
                            try clear hx1
                            try clear c2
                            try clear p2
                            try clear c3
                            try clear c3b0
                            try clear c3b1
                            try clear q3
                            try clear c4
                            try clear c7
                            try clear p10
                            try clear q10
                            try clear hx10
                            try clear c11
                            try clear c11b0
                            try clear c13
                            try clear c13b0
                            try clear c15
                            try clear c15b0
                            try clear c18
                            try clear c19
                            try clear c19b0
                            try clear c19b1
                            try clear c22
                            try clear c22b0
                            try clear c23
                            try clear c23b0
                            try clear c24
                            try clear c24b0
                            try clear c26
                            try clear c26b0
                            try clear c26b1
                            try clear c27
                            try clear c27b0
                            try clear c28
                            try clear c28b0
                            try clear c28b1
                            try clear c30
                            try clear q34
                            try clear hcz12_0
                            try clear hcz12_1
                            try clear hcz12_2
                            try clear hcz12_3
                            try clear hcz14_0
                            try clear hcz14_1
                            try clear hcz14_2
                            try clear hcz14_3
                            try clear hcz16_0
                            try clear hcz16_1
                            try clear hcz16_2
                            try clear hcz16_3
                            try clear hcz17_0
                            try clear hcz17_1
                            try clear hcz17_2
                            try clear hcz17_3
                            try clear hcz20_0
                            try clear hcz20_1
                            try clear hcz20_2
                            try clear hcz20_3
                            try clear hcz21_0
                            try clear hcz21_1
                            try clear hcz21_2
                            try clear hcz21_3
                            try clear hcz31_0
                            try clear hcz31_1
                            try clear hcz31_2
                            try clear hcz31_3
                            try clear hcz33_0
                            try clear hcz33_1
                            try clear hcz33_2
                            try clear hcz33_3
                            try clear hcz5_0
                            try clear hcz5_1
                            try clear hcz5_2
                            try clear hcz5_3
                            try clear hcz9_0
                            try clear hcz9_1
                            try clear hcz9_2
                            try clear hcz9_3
                            try clear hfz12_0
                            try clear hfz12_1
                            try clear hfz12_2
                            try clear hfz12_3
                            try clear hfz14_0
                            try clear hfz14_1
                            try clear hfz14_2
                            try clear hfz14_3
                            try clear hfz16_0
                            try clear hfz16_1
                            try clear hfz16_2
                            try clear hfz16_3
                            try clear hfz17_0
                            try clear hfz17_1
                            try clear hfz17_2
                            try clear hfz17_3
                            try clear hfz20_0
                            try clear hfz20_1
                            try clear hfz20_2
                            try clear hfz20_3
                            try clear hfz21_0
                            try clear hfz21_1
                            try clear hfz21_2
                            try clear hfz21_3
                            try clear hfz31_0
                            try clear hfz31_1
                            try clear hfz31_2
                            try clear hfz31_3
                            try clear hfz33_0
                            try clear hfz33_1
                            try clear hfz33_2
                            try clear hfz33_3
                            try clear hfz5_0
                            try clear hfz5_1
                            try clear hfz5_2
                            try clear hfz5_3
                            try clear hfz9_0
                            try clear hfz9_1
                            try clear hfz9_2
                            try clear hfz9_3
                            try clear hx105_0
                            try clear hx105_1
                            try clear hx105_2
                            try clear hx105_3
                            try clear p105
                            try clear p2
                            try clear q105
                            try clear q34
                            obtain ⟨x55_3, rfl, HA, HK3, BK103, BK106, HB⟩ := hrel
                            cases gk with
                            | zero => exact absurd HA.out (by simp [record_Check.l1])
                            | succ k3 =>
                              have H := HA.out
                              clear HA
                              simp only [record_Check.l1] at H
                              by_cases c35 : x55_3 < (y108.length : Int)
                              · rw [if_pos c35] at H
                                have c35b0 : decide (x55_3 < (y108.length : Int)) = true := decide_eq_true c35
                                clear c35
                                by_cases c36 : 0 ≤ x55_3
                                · rw [if_pos c36] at H
                                  have c36b0 : decide (0 ≤ x55_3) = true := decide_eq_true c36
                                  clear c36
                                  by_cases c37 : x55_3 < (y108.length : Int)
                                  · rw [if_pos c37] at H
                                    have c37b0 : decide (x55_3 < (y108.length : Int)) = true := decide_eq_true c37
                                    clear c37
                                    by_cases c38 : ((rd_T34 y108 x55_3).f0).toList = ((rd_T34 l0_3 x40_2).f0).toList
                                    · rw [if_pos c38] at H
                                      have c38b0 : (((rd_T34 y108 x55_3).f0).toList == ((rd_T34 l0_3 x40_2).f0).toList) = true := beq_iff_eq.mpr c38
                                      have c38b1 : (((rd_T34 y108 x55_3).f0).toList != ((rd_T34 l0_3 x40_2).f0).toList) = false := bne_eq_false_iff_eq.mpr c38
                                      clear c38
                                      obtain rfl := Option.some.inj H
                                      have p112 : 0 ≤ (x55_3 : Int) := of_decide_eq_true (by first | (with_reducible assumption) | assumption)
                                      have q112 : x55_3 < (y108.length : Int) := of_decide_eq_true (by first | (with_reducible assumption) | assumption)
                                      obtain ⟨ad112, e112, hx112_0, hx112_1, hx112_2, hx112_3⟩ := at_T34 HR111.out x55_3 p112 q112
                                      obtain rfl : ad105 = ad112 := (by injection e112)
                                      replace hx112_0 := (HB.out.cell (World.block_lt_of_cell? w _ hx112_0)).trans hx112_0
                                      replace hx112_1 := (HB.out.cell (World.block_lt_of_cell? w _ hx112_1)).trans hx112_1
                                      replace hx112_2 := (HB.out.cell (World.block_lt_of_cell? w _ hx112_2)).trans hx112_2
                                      replace hx112_3 := (HB.out.cell (World.block_lt_of_cell? w _ hx112_3)).trans hx112_3
                                      replace p112 := eq_true p112
                                      replace q112 := eq_true q112
                                      go_wp2_with (first | ((with_reducible refine gate_dst (N := 7) rfl ?_); refine box_event ?hg (N := 7) ?hd (cs := #[.string (⟨#[]⟩ : ByteArray), .int .i64 0, .int .i64 0, .string (⟨#[]⟩ : ByteArray)]) (t := 34) ?hr ?_; (case hd => rfl); (case hg => rfl); (case hr => first | (go_simp; done) | (go_simp; rfl)); intro gb113 hg w39 hbox hb; have n0_ := Aside0.mk (blk_below (g := gb103) (o := .cells #[.int .i64 a0_0, .int .i64 a0_1, .int .i64 a0_2, .slice (some ad105) l0_3.length c0_3] 50 (0, 0)) (by (with_reducible repeat (first | refine blk_drewN ?_ _ | refine blk_drew ?_ | refine blk_alloc ?_ _)); exact BK103.out) hb); have n1_ := Aside0.mk (blk_below (g := gb106) (o := .cells #[.string ((rd_T34 l0_3 x40_2).f0), .int .i64 ((rd_T34 l0_3 x40_2).f1), .int .i64 ((rd_T34 l0_3 x40_2).f2), .string ((rd_T34 l0_3 x40_2).f3)] 34 (0, 0)) (by (with_reducible repeat (first | refine blk_drewN ?_ _ | refine blk_drew ?_ | refine blk_alloc ?_ _)); exact BK106.out) hb); have n2_ := Aside0.mk (below_step (by repeat (first | (with_reducible first | exact HB.out | apply below_alloc | apply pw_below_drewN | apply below_drew1 | refine below_set ?_ GE103.out | refine below_set ?_ GE106.out) | exact HB.out)) hb); have n3_ := Aside0.mk (hbox); have n4_ := Aside0.mk ((by rw [hg]; exact (below_size (by repeat (first | (with_reducible first | exact HB.out | apply below_alloc | apply pw_below_drewN | apply below_drew1 | refine below_set ?_ GE103.out | refine below_set ?_ GE106.out) | exact HB.out))) : w.heap.size ≤ gb113)); have n5_ := Aside0.mk ((by rw [hg]; exact (below_size (by repeat (first | (with_reducible first | exact HB.out | apply below_alloc | apply pw_below_drewN | apply below_drew1 | refine below_set ?_ GE103.out | refine below_set ?_ GE106.out) | exact HB.out))) : w.heap.size ≤ gb113)); have n6_ := Aside0.mk ((by rw [hg]; exact Nat.ne_of_lt (blk_lt (g := gb103) (o := .cells #[.int .i64 a0_0, .int .i64 a0_1, .int .i64 a0_2, .slice (some ad105) l0_3.length c0_3] 50 (0, 0)) (by (with_reducible repeat (first | refine blk_drewN ?_ _ | refine blk_drew ?_ | refine blk_alloc ?_ _)); exact BK103.out)) : gb103 ≠ gb113)); have n7_ := Aside0.mk ((by rw [hg]; exact Nat.ne_of_gt (blk_lt (g := gb103) (o := .cells #[.int .i64 a0_0, .int .i64 a0_1, .int .i64 a0_2, .slice (some ad105) l0_3.length c0_3] 50 (0, 0)) (by (with_reducible repeat (first | refine blk_drewN ?_ _ | refine blk_drew ?_ | refine blk_alloc ?_ _)); exact BK103.out)) : gb113 ≠ gb103)); have n8_ := Aside0.mk ((by rw [hg]; exact Nat.ne_of_lt (blk_lt (g := gb106) (o := .cells #[.string ((rd_T34 l0_3 x40_2).f0), .int .i64 ((rd_T34 l0_3 x40_2).f1), .int .i64 ((rd_T34 l0_3 x40_2).f2), .string ((rd_T34 l0_3 x40_2).f3)] 34 (0, 0)) (by (with_reducible repeat (first | refine blk_drewN ?_ _ | refine blk_drew ?_ | refine blk_alloc ?_ _)); exact BK106.out)) : gb106 ≠ gb113)); have n9_ := Aside0.mk ((by rw [hg]; exact Nat.ne_of_gt (blk_lt (g := gb106) (o := .cells #[.string ((rd_T34 l0_3 x40_2).f0), .int .i64 ((rd_T34 l0_3 x40_2).f1), .int .i64 ((rd_T34 l0_3 x40_2).f2), .string ((rd_T34 l0_3 x40_2).f3)] 34 (0, 0)) (by (with_reducible repeat (first | refine blk_drewN ?_ _ | refine blk_drew ?_ | refine blk_alloc ?_ _)); exact BK106.out)) : gb113 ≠ gb106)); clear BK103; clear BK106; clear HB; have BK103 := n0_; have BK106 := n1_; have HB := n2_; have BK113 := n3_; have GW113 := n4_; have GE113 := n5_; have NB103_113 := n6_; have NB113_103 := n7_; have NB106_113 := n8_; have NB113_106 := n9_; clear n0_ n1_ n2_ n3_ n4_ n5_ n6_ n7_ n8_ n9_; clear hb hbox hg; have hnb40 := NB113_103.out; have hnc40 := NB103_113.out; have hnb41 := NB113_106.out; have hnc41 := NB106_113.out; have hcz42_0 : w39.cell? ⟨gb113, 0, none⟩ = some (.string (⟨#[]⟩ : ByteArray)) := (blk_cell BK113.out 0).trans rfl; have hcz42_1 : w39.cell? ⟨gb113, 1, none⟩ = some (.int .i64 0) := (blk_cell BK113.out 1).trans rfl; have hcz42_2 : w39.cell? ⟨gb113, 2, none⟩ = some (.int .i64 0) := (blk_cell BK113.out 2).trans rfl; have hcz42_3 : w39.cell? ⟨gb113, 3, none⟩ = some (.string (⟨#[]⟩ : ByteArray)) := (blk_cell BK113.out 3).trans rfl; have hfz42_0 := blk_frozen BK113.out 0; have hfz42_1 := blk_frozen BK113.out 1; have hfz42_2 := blk_frozen BK113.out 2; have hfz42_3 := blk_frozen BK113.out 3; have hnb43 := NB106_103.out; have hnc43 := NB103_106.out; have hcz44_0 : w39.cell? ⟨gb106, 0, none⟩ = some (.string ((rd_T34 l0_3 x40_2).f0)) := (blk_cell BK106.out 0).trans rfl; have hcz44_1 : w39.cell? ⟨gb106, 1, none⟩ = some (.int .i64 ((rd_T34 l0_3 x40_2).f1)) := (blk_cell BK106.out 1).trans rfl; have hcz44_2 : w39.cell? ⟨gb106, 2, none⟩ = some (.int .i64 ((rd_T34 l0_3 x40_2).f2)) := (blk_cell BK106.out 2).trans rfl; have hcz44_3 : w39.cell? ⟨gb106, 3, none⟩ = some (.string ((rd_T34 l0_3 x40_2).f3)) := (blk_cell BK106.out 3).trans rfl; have hfz44_0 := blk_frozen BK106.out 0; have hfz44_1 := blk_frozen BK106.out 1; have hfz44_2 := blk_frozen BK106.out 2; have hfz44_3 := blk_frozen BK106.out 3))
                                      go_ret
                                      exact ⟨by first | rfl | (simp [errW_none, errW_some] <;> rfl) | (simp [*, errW_none, errW_some] <;> rfl) | (simp only [isEmpty_ne_, isEmpty_eq_]; rfl) | (simp [*, isEmpty_ne_, isEmpty_eq_]; done), by repeat (first | (with_reducible first | exact HB.out | apply below_alloc | apply pw_below_drewN | apply below_drew1 | refine below_set ?_ GE103.out | refine below_set ?_ GE106.out | refine below_set ?_ GE113.out) | exact HB.out)⟩
                                    · rw [if_neg c38] at H
                                      have c38b0 : (((rd_T34 y108 x55_3).f0).toList == ((rd_T34 l0_3 x40_2).f0).toList) = false := beq_eq_false_iff_ne.mpr c38
                                      have c38b1 : (((rd_T34 y108 x55_3).f0).toList != ((rd_T34 l0_3 x40_2).f0).toList) = true := bne_iff_ne.mpr c38
                                      have H' := Aside0.mk H
                                      clear H
                                      have p112 : 0 ≤ (x55_3 : Int) := of_decide_eq_true (by first | (with_reducible assumption) | assumption)
                                      have q112 : x55_3 < (y108.length : Int) := of_decide_eq_true (by first | (with_reducible assumption) | assumption)
                                      obtain ⟨ad112, e112, hx112_0, hx112_1, hx112_2, hx112_3⟩ := at_T34 HR111.out x55_3 p112 q112
                                      obtain rfl : ad105 = ad112 := (by injection e112)
                                      replace hx112_0 := (HB.out.cell (World.block_lt_of_cell? w _ hx112_0)).trans hx112_0
                                      replace hx112_1 := (HB.out.cell (World.block_lt_of_cell? w _ hx112_1)).trans hx112_1
                                      replace hx112_2 := (HB.out.cell (World.block_lt_of_cell? w _ hx112_2)).trans hx112_2
                                      replace hx112_3 := (HB.out.cell (World.block_lt_of_cell? w _ hx112_3)).trans hx112_3
                                      replace p112 := eq_true p112
                                      replace q112 := eq_true q112
                                      go_wp2_with (first | ((with_reducible refine gate_dst (N := 7) rfl ?_); refine box_event ?hg (N := 7) ?hd (cs := #[.string (⟨#[]⟩ : ByteArray), .int .i64 0, .int .i64 0, .string (⟨#[]⟩ : ByteArray)]) (t := 34) ?hr ?_; (case hd => rfl); (case hg => rfl); (case hr => first | (go_simp; done) | (go_simp; rfl)); intro gb113 hg w45 hbox hb; have n0_ := Aside0.mk (blk_below (g := gb103) (o := .cells #[.int .i64 a0_0, .int .i64 a0_1, .int .i64 a0_2, .slice (some ad105) l0_3.length c0_3] 50 (0, 0)) (by (with_reducible repeat (first | refine blk_drewN ?_ _ | refine blk_drew ?_ | refine blk_alloc ?_ _)); exact BK103.out) hb); have n1_ := Aside0.mk (blk_below (g := gb106) (o := .cells #[.string ((rd_T34 l0_3 x40_2).f0), .int .i64 ((rd_T34 l0_3 x40_2).f1), .int .i64 ((rd_T34 l0_3 x40_2).f2), .string ((rd_T34 l0_3 x40_2).f3)] 34 (0, 0)) (by (with_reducible repeat (first | refine blk_drewN ?_ _ | refine blk_drew ?_ | refine blk_alloc ?_ _)); exact BK106.out) hb); have n2_ := Aside0.mk (below_step (by repeat (first | (with_reducible first | exact HB.out | apply below_alloc | apply pw_below_drewN | apply below_drew1 | refine below_set ?_ GE103.out | refine below_set ?_ GE106.out) | exact HB.out)) hb); have n3_ := Aside0.mk (hbox); have n4_ := Aside0.mk ((by rw [hg]; exact (below_size (by repeat (first | (with_reducible first | exact HB.out | apply below_alloc | apply pw_below_drewN | apply below_drew1 | refine below_set ?_ GE103.out | refine below_set ?_ GE106.out) | exact HB.out))) : w.heap.size ≤ gb113)); have n5_ := Aside0.mk ((by rw [hg]; exact (below_size (by repeat (first | (with_reducible first | exact HB.out | apply below_alloc | apply pw_below_drewN | apply below_drew1 | refine below_set ?_ GE103.out | refine below_set ?_ GE106.out) | exact HB.out))) : w.heap.size ≤ gb113)); have n6_ := Aside0.mk ((by rw [hg]; exact Nat.ne_of_lt (blk_lt (g := gb103) (o := .cells #[.int .i64 a0_0, .int .i64 a0_1, .int .i64 a0_2, .slice (some ad105) l0_3.length c0_3] 50 (0, 0)) (by (with_reducible repeat (first | refine blk_drewN ?_ _ | refine blk_drew ?_ | refine blk_alloc ?_ _)); exact BK103.out)) : gb103 ≠ gb113)); have n7_ := Aside0.mk ((by rw [hg]; exact Nat.ne_of_gt (blk_lt (g := gb103) (o := .cells #[.int .i64 a0_0, .int .i64 a0_1, .int .i64 a0_2, .slice (some ad105) l0_3.length c0_3] 50 (0, 0)) (by (with_reducible repeat (first | refine blk_drewN ?_ _ | refine blk_drew ?_ | refine blk_alloc ?_ _)); exact BK103.out)) : gb113 ≠ gb103)); have n8_ := Aside0.mk ((by rw [hg]; exact Nat.ne_of_lt (blk_lt (g := gb106) (o := .cells #[.string ((rd_T34 l0_3 x40_2).f0), .int .i64 ((rd_T34 l0_3 x40_2).f1), .int .i64 ((rd_T34 l0_3 x40_2).f2), .string ((rd_T34 l0_3 x40_2).f3)] 34 (0, 0)) (by (with_reducible repeat (first | refine blk_drewN ?_ _ | refine blk_drew ?_ | refine blk_alloc ?_ _)); exact BK106.out)) : gb106 ≠ gb113)); have n9_ := Aside0.mk ((by rw [hg]; exact Nat.ne_of_gt (blk_lt (g := gb106) (o := .cells #[.string ((rd_T34 l0_3 x40_2).f0), .int .i64 ((rd_T34 l0_3 x40_2).f1), .int .i64 ((rd_T34 l0_3 x40_2).f2), .string ((rd_T34 l0_3 x40_2).f3)] 34 (0, 0)) (by (with_reducible repeat (first | refine blk_drewN ?_ _ | refine blk_drew ?_ | refine blk_alloc ?_ _)); exact BK106.out)) : gb113 ≠ gb106)); clear BK103; clear BK106; clear HB; have BK103 := n0_; have BK106 := n1_; have HB := n2_; have BK113 := n3_; have GW113 := n4_; have GE113 := n5_; have NB103_113 := n6_; have NB113_103 := n7_; have NB106_113 := n8_; have NB113_106 := n9_; clear n0_ n1_ n2_ n3_ n4_ n5_ n6_ n7_ n8_ n9_; clear hb hbox hg; have hnb46 := NB113_103.out; have hnc46 := NB103_113.out; have hnb47 := NB113_106.out; have hnc47 := NB106_113.out; have hcz48_0 : w45.cell? ⟨gb113, 0, none⟩ = some (.string (⟨#[]⟩ : ByteArray)) := (blk_cell BK113.out 0).trans rfl; have hcz48_1 : w45.cell? ⟨gb113, 1, none⟩ = some (.int .i64 0) := (blk_cell BK113.out 1).trans rfl; have hcz48_2 : w45.cell? ⟨gb113, 2, none⟩ = some (.int .i64 0) := (blk_cell BK113.out 2).trans rfl; have hcz48_3 : w45.cell? ⟨gb113, 3, none⟩ = some (.string (⟨#[]⟩ : ByteArray)) := (blk_cell BK113.out 3).trans rfl; have hfz48_0 := blk_frozen BK113.out 0; have hfz48_1 := blk_frozen BK113.out 1; have hfz48_2 := blk_frozen BK113.out 2; have hfz48_3 := blk_frozen BK113.out 3; have hnb49 := NB106_103.out; have hnc49 := NB103_106.out; have hcz50_0 : w45.cell? ⟨gb106, 0, none⟩ = some (.string ((rd_T34 l0_3 x40_2).f0)) := (blk_cell BK106.out 0).trans rfl; have hcz50_1 : w45.cell? ⟨gb106, 1, none⟩ = some (.int .i64 ((rd_T34 l0_3 x40_2).f1)) := (blk_cell BK106.out 1).trans rfl; have hcz50_2 : w45.cell? ⟨gb106, 2, none⟩ = some (.int .i64 ((rd_T34 l0_3 x40_2).f2)) := (blk_cell BK106.out 2).trans rfl; have hcz50_3 : w45.cell? ⟨gb106, 3, none⟩ = some (.string ((rd_T34 l0_3 x40_2).f3)) := (blk_cell BK106.out 3).trans rfl; have hfz50_0 := blk_frozen BK106.out 0; have hfz50_1 := blk_frozen BK106.out 1; have hfz50_2 := blk_frozen BK106.out 2; have hfz50_3 := blk_frozen BK106.out 3))
                                      go_roundg k3
                                      case measure => have := HJ6.out; have := HK2.out; have := HK3.out; omega
                                      case rel => exact ⟨(wrap64 (x55_3 + 1)), (by first | rfl | (simp; done) | (simp [*]; done) | (simp only [isEmpty_ne_]; done)), H', ⟨by have := HJ6.out; have := HK2.out; have := HK3.out; omega⟩, ⟨by (with_reducible repeat (first | refine blk_drewN ?_ _ | refine blk_drew ?_ | refine blk_alloc ?_ _)); refine blk_far ?_ NB103_113.out _; (with_reducible repeat (first | refine blk_drewN ?_ _ | refine blk_drew ?_ | refine blk_alloc ?_ _)); refine blk_far ?_ NB103_113.out _; (with_reducible repeat (first | refine blk_drewN ?_ _ | refine blk_drew ?_ | refine blk_alloc ?_ _)); refine blk_far ?_ NB103_113.out _; (with_reducible repeat (first | refine blk_drewN ?_ _ | refine blk_drew ?_ | refine blk_alloc ?_ _)); refine blk_far ?_ NB103_113.out _; (with_reducible repeat (first | refine blk_drewN ?_ _ | refine blk_drew ?_ | refine blk_alloc ?_ _)); exact BK103.out⟩, ⟨by (with_reducible repeat (first | refine blk_drewN ?_ _ | refine blk_drew ?_ | refine blk_alloc ?_ _)); refine blk_far ?_ NB106_113.out _; (with_reducible repeat (first | refine blk_drewN ?_ _ | refine blk_drew ?_ | refine blk_alloc ?_ _)); refine blk_far ?_ NB106_113.out _; (with_reducible repeat (first | refine blk_drewN ?_ _ | refine blk_drew ?_ | refine blk_alloc ?_ _)); refine blk_far ?_ NB106_113.out _; (with_reducible repeat (first | refine blk_drewN ?_ _ | refine blk_drew ?_ | refine blk_alloc ?_ _)); refine blk_far ?_ NB106_113.out _; (with_reducible repeat (first | refine blk_drewN ?_ _ | refine blk_drew ?_ | refine blk_alloc ?_ _)); exact BK106.out⟩, ⟨by repeat (first | (with_reducible first | exact HB.out | apply below_alloc | apply pw_below_drewN | apply below_drew1 | refine below_set ?_ GE103.out | refine below_set ?_ GE106.out | refine below_set ?_ GE113.out) | exact HB.out)⟩⟩
                                  · rw [if_neg c37] at H
                                    exact absurd H (by simp)
                                · rw [if_neg c36] at H
                                  exact absurd H (by simp)
                              · rw [if_neg c35] at H
                                have c35b0 : decide (x55_3 < (y108.length : Int)) = false := decide_eq_false c35
                                clear c35
                                have H' := Aside0.mk H
                                clear H
                                go_wp2
                                go_roundg k3
                                case measure => have := HJ6.out; have := HK2.out; have := HK3.out; omega
                                case rel => exact ⟨(wrap64 (x40_2 + 1)), (by first | rfl | (simp; done) | (simp [*]; done) | (simp only [isEmpty_ne_]; done)), H', ⟨by have := HJ6.out; have := HK2.out; have := HK3.out; omega⟩, ⟨by (with_reducible repeat (first | refine blk_drewN ?_ _ | refine blk_drew ?_ | refine blk_alloc ?_ _)); exact BK103.out⟩, ⟨by repeat (first | (with_reducible first | exact HB.out | apply below_alloc | apply pw_below_drewN | apply below_drew1 | refine below_set ?_ GE103.out | refine below_set ?_ GE106.out) | exact HB.out)⟩⟩
                        · rw [if_neg c28] at H
                          exact absurd H (by simp)
                      · rw [if_neg c26] at H
                        have c26b0 : (t107 == 0) = false := beq_eq_false_iff_ne.mpr c26
                        have c26b1 : (t107 != 0) = true := bne_iff_ne.mpr c26
                        obtain rfl := Option.some.inj H
                        have p105 : 0 ≤ (x40_2 : Int) := of_decide_eq_true (by first | (with_reducible assumption) | assumption)
                        have q105 : x40_2 < (l0_3.length : Int) := of_decide_eq_true (by first | (with_reducible assumption) | assumption)
                        obtain ⟨ad105, e105, hx105_0, hx105_1, hx105_2, hx105_3⟩ := at_T34 HR0_3.out x40_2 p105 q105
                        cases e105
                        replace hx105_0 := (HB.out.cell (World.block_lt_of_cell? w _ hx105_0)).trans hx105_0
                        replace hx105_1 := (HB.out.cell (World.block_lt_of_cell? w _ hx105_1)).trans hx105_1
                        replace hx105_2 := (HB.out.cell (World.block_lt_of_cell? w _ hx105_2)).trans hx105_2
                        replace hx105_3 := (HB.out.cell (World.block_lt_of_cell? w _ hx105_3)).trans hx105_3
                        replace p105 := eq_true p105
                        replace q105 := eq_true q105
                        go_wp2_with (first | ((with_reducible refine gate_dst (N := 4) rfl ?_); refine box_event ?hg (N := 4) ?hd (cs := #[.string (⟨#[]⟩ : ByteArray), .int .i64 0, .int .i64 0, .string (⟨#[]⟩ : ByteArray)]) (t := 34) ?hr ?_; (case hd => rfl); (case hg => rfl); (case hr => first | (go_simp; done) | (go_simp; rfl)); intro gb106 hg w51 hbox hb; have n0_ := Aside0.mk (blk_below (g := gb103) (o := .cells #[.int .i64 a0_0, .int .i64 a0_1, .int .i64 a0_2, .slice (some ad105) l0_3.length c0_3] 50 (0, 0)) (by (with_reducible repeat (first | refine blk_drewN ?_ _ | refine blk_drew ?_ | refine blk_alloc ?_ _)); exact BK103.out) hb); have n1_ := Aside0.mk (below_step (by repeat (first | (with_reducible first | exact HB.out | apply below_alloc | apply pw_below_drewN | apply below_drew1 | refine below_set ?_ GE103.out) | exact HB.out)) hb); have n2_ := Aside0.mk (hbox); have n3_ := Aside0.mk ((by rw [hg]; exact (below_size (by repeat (first | (with_reducible first | exact HB.out | apply below_alloc | apply pw_below_drewN | apply below_drew1 | refine below_set ?_ GE103.out) | exact HB.out))) : w.heap.size ≤ gb106)); have n4_ := Aside0.mk ((by rw [hg]; exact (below_size (by repeat (first | (with_reducible first | exact HB.out | apply below_alloc | apply pw_below_drewN | apply below_drew1 | refine below_set ?_ GE103.out) | exact HB.out))) : w.heap.size ≤ gb106)); have n5_ := Aside0.mk ((by rw [hg]; exact Nat.ne_of_lt (blk_lt (g := gb103) (o := .cells #[.int .i64 a0_0, .int .i64 a0_1, .int .i64 a0_2, .slice (some ad105) l0_3.length c0_3] 50 (0, 0)) (by (with_reducible repeat (first | refine blk_drewN ?_ _ | refine blk_drew ?_ | refine blk_alloc ?_ _)); exact BK103.out)) : gb103 ≠ gb106)); have n6_ := Aside0.mk ((by rw [hg]; exact Nat.ne_of_gt (blk_lt (g := gb103) (o := .cells #[.int .i64 a0_0, .int .i64 a0_1, .int .i64 a0_2, .slice (some ad105) l0_3.length c0_3] 50 (0, 0)) (by (with_reducible repeat (first | refine blk_drewN ?_ _ | refine blk_drew ?_ | refine blk_alloc ?_ _)); exact BK103.out)) : gb106 ≠ gb103)); clear BK103; clear HB; have BK103 := n0_; have HB := n1_; have BK106 := n2_; have GW106 := n3_; have GE106 := n4_; have NB103_106 := n5_; have NB106_103 := n6_; clear n0_ n1_ n2_ n3_ n4_ n5_ n6_; clear hb hbox hg; have hnb52 := NB106_103.out; have hnc52 := NB103_106.out; have hcz53_0 : w51.cell? ⟨gb106, 0, none⟩ = some (.string (⟨#[]⟩ : ByteArray)) := (blk_cell BK106.out 0).trans rfl; have hcz53_1 : w51.cell? ⟨gb106, 1, none⟩ = some (.int .i64 0) := (blk_cell BK106.out 1).trans rfl; have hcz53_2 : w51.cell? ⟨gb106, 2, none⟩ = some (.int .i64 0) := (blk_cell BK106.out 2).trans rfl; have hcz53_3 : w51.cell? ⟨gb106, 3, none⟩ = some (.string (⟨#[]⟩ : ByteArray)) := (blk_cell BK106.out 3).trans rfl; have hfz53_0 := blk_frozen BK106.out 0; have hfz53_1 := blk_frozen BK106.out 1; have hfz53_2 := blk_frozen BK106.out 2; have hfz53_3 := blk_frozen BK106.out 3) | ((with_reducible refine gate_callee (f := 116) rfl ?_); refine goesL_ (some 46) rfl rfl Tryd.func116 (by kernel_rfl) rfl #[.agg #[.string ((rd_T34 l0_3 x40_2).f0), .int .i64 ((rd_T34 l0_3 x40_2).f1), .int .i64 ((rd_T34 l0_3 x40_2).f2), .string ((rd_T34 l0_3 x40_2).f3)]] rfl (by (try simp only [List.map_toArray, List.map_cons, List.map_nil]); first | done | rfl | (simp only [List.length_drop, List.length_take]; rfl)) ?_; (with_reducible refine (value_Check.calls k2 ((rd_T34 l0_3 x40_2).f0) ((rd_T34 l0_3 x40_2).f1) ((rd_T34 l0_3 x40_2).f2) ((rd_T34 l0_3 x40_2).f3) t107 _ A25.out).mono ?_); rintro e w54 ⟨rfl, hb⟩; refine ⟨_, rfl, ?_⟩; have n0_ := Aside0.mk (blk_below (g := gb103) (o := .cells #[.int .i64 a0_0, .int .i64 a0_1, .int .i64 a0_2, .slice (some ad105) l0_3.length c0_3] 50 (0, 0)) (by (with_reducible repeat (first | refine blk_drewN ?_ _ | refine blk_drew ?_ | refine blk_alloc ?_ _)); refine blk_far ?_ NB103_106.out _; (with_reducible repeat (first | refine blk_drewN ?_ _ | refine blk_drew ?_ | refine blk_alloc ?_ _)); refine blk_far ?_ NB103_106.out _; (with_reducible repeat (first | refine blk_drewN ?_ _ | refine blk_drew ?_ | refine blk_alloc ?_ _)); refine blk_far ?_ NB103_106.out _; (with_reducible repeat (first | refine blk_drewN ?_ _ | refine blk_drew ?_ | refine blk_alloc ?_ _)); refine blk_far ?_ NB103_106.out _; (with_reducible repeat (first | refine blk_drewN ?_ _ | refine blk_drew ?_ | refine blk_alloc ?_ _)); exact BK103.out) hb); have n1_ := Aside0.mk (blk_below (g := gb106) (o := .cells #[.string ((rd_T34 l0_3 x40_2).f0), .int .i64 ((rd_T34 l0_3 x40_2).f1), .int .i64 ((rd_T34 l0_3 x40_2).f2), .string ((rd_T34 l0_3 x40_2).f3)] 34 (0, 0)) (by (with_reducible repeat (first | refine blk_drewN ?_ _ | refine blk_drew ?_ | refine blk_alloc ?_ _)); refine blk_put (cs := #[.string ((rd_T34 l0_3 x40_2).f0), .int .i64 ((rd_T34 l0_3 x40_2).f1), .int .i64 ((rd_T34 l0_3 x40_2).f2), .string (⟨#[]⟩ : ByteArray)]) ?_ 3 _ rfl; (with_reducible repeat (first | refine blk_drewN ?_ _ | refine blk_drew ?_ | refine blk_alloc ?_ _)); refine blk_put (cs := #[.string ((rd_T34 l0_3 x40_2).f0), .int .i64 ((rd_T34 l0_3 x40_2).f1), .int .i64 0, .string (⟨#[]⟩ : ByteArray)]) ?_ 2 _ rfl; (with_reducible repeat (first | refine blk_drewN ?_ _ | refine blk_drew ?_ | refine blk_alloc ?_ _)); refine blk_put (cs := #[.string ((rd_T34 l0_3 x40_2).f0), .int .i64 0, .int .i64 0, .string (⟨#[]⟩ : ByteArray)]) ?_ 1 _ rfl; (with_reducible repeat (first | refine blk_drewN ?_ _ | refine blk_drew ?_ | refine blk_alloc ?_ _)); refine blk_put (cs := #[.string (⟨#[]⟩ : ByteArray), .int .i64 0, .int .i64 0, .string (⟨#[]⟩ : ByteArray)]) ?_ 0 _ rfl; (with_reducible repeat (first | refine blk_drewN ?_ _ | refine blk_drew ?_ | refine blk_alloc ?_ _)); exact BK106.out) hb); have n2_ := Aside0.mk (below_step (by repeat (first | (with_reducible first | exact HB.out | apply below_alloc | apply pw_below_drewN | apply below_drew1 | refine below_set ?_ GE103.out | refine below_set ?_ GE106.out) | exact HB.out)) hb); clear BK103; clear BK106; clear HB; have BK103 := n0_; have BK106 := n1_; have HB := n2_; clear n0_ n1_ n2_; (try clear hb); (try clear hb2); (try clear hk); (try clear hi)))
                        go_ret
                        exact ⟨by first | rfl | (simp [errW_none, errW_some] <;> rfl) | (simp [*, errW_none, errW_some] <;> rfl) | (simp only [isEmpty_ne_, isEmpty_eq_]; rfl) | (simp [*, isEmpty_ne_, isEmpty_eq_]; done), by repeat (first | (with_reducible first | exact HB.out | apply below_alloc | apply pw_below_drewN | apply below_drew1 | refine below_set ?_ GE103.out | refine below_set ?_ GE106.out) | exact HB.out)⟩
                    · rw [if_neg c24] at H
                      exact absurd H (by simp)
                  · rw [if_neg c23] at H
                    exact absurd H (by simp)
                · rw [if_neg c22] at H
                  have c22b0 : decide (x40_2 < (l0_3.length : Int)) = false := decide_eq_false c22
                  clear c22
                  obtain rfl := Option.some.inj H
                  go_wp2
                  go_ret
                  exact ⟨by first | rfl | (simp [errW_none, errW_some] <;> rfl) | (simp [*, errW_none, errW_some] <;> rfl) | (simp only [isEmpty_ne_, isEmpty_eq_]; rfl) | (simp [*, isEmpty_ne_, isEmpty_eq_]; done), by repeat (first | (with_reducible first | exact HB.out | apply below_alloc | apply pw_below_drewN | apply below_drew1 | refine below_set ?_ GE103.out) | exact HB.out)⟩

end Go.Proofs.YtjnlmmjadlidlaaDoor.PRec
