-- Written by a program of mine (wip/kprint.sh): a plain Lean function for each Go function, and the proof that the Go code comes to its answers. Not trusted: Lean checks it.
import Derived.Test.YtjnlmmjadlidlaaDoorPNamesx0
import Derived.Test.YtjnlmmjadlidlaaDoorPNamesx6
import Derived.Test.YtjnlmmjadlidlaaDoorNE6
namespace Go.Proofs.YtjnlmmjadlidlaaDoor.PNames
open Go.RowKit Go.Proofs.YtjnlmmjadlidlaaDoorW.PrintWords Go.Proofs.YtjnlmmjadlidlaaDoorW.PrintLast Go.Proofs.YtjnlmmjadlidlaaDoorW.PrintMore
attribute [local go_sem] max2_int min2_int max_two min_two max_three min_three max_four min_four   -- for this text's walks alone
set_option linter.unusedVariables false
set_option linter.unusedSimpArgs false

/-! ### kauditref37_NamesCheck: function 17 -/
mutual
def kauditref37_NamesCheck.l0 : Nat → List (S47) → List (S47) → Int → Int → Option (Int)
  | 0, _, _, _, _ => none
  | k + 1, x0, x8, x9, x10 => if x10 < x9 then (if 0 ≤ x10 then (if x10 < (x8.length : Int) then (if ((rd_T47 x8 x10).f0) < 0 then (kauditref37_NamesCheck.j1 k x0 x10 x8 x9 x10 true ((rd_T47 x8 x10).f0) ((rd_T47 x8 x10).f1) ((rd_T47 x8 x10).f2) ((rd_T47 x8 x10).f3)) else (if ((rd_T47 x8 x10).f0) > 1099511627776 then (kauditref37_NamesCheck.j1 k x0 x10 x8 x9 x10 true ((rd_T47 x8 x10).f0) ((rd_T47 x8 x10).f1) ((rd_T47 x8 x10).f2) ((rd_T47 x8 x10).f3)) else (if ((rd_T47 x8 x10).f1) = 1 then (if ((rd_T47 x8 x10).f2) < 0 then (kauditref37_NamesCheck.j1 k x0 x10 x8 x9 x10 true ((rd_T47 x8 x10).f0) ((rd_T47 x8 x10).f1) ((rd_T47 x8 x10).f2) ((rd_T47 x8 x10).f3)) else (if ((rd_T47 x8 x10).f2) ≥ 4294967295 then (kauditref37_NamesCheck.j1 k x0 x10 x8 x9 x10 true ((rd_T47 x8 x10).f0) ((rd_T47 x8 x10).f1) ((rd_T47 x8 x10).f2) ((rd_T47 x8 x10).f3)) else ((kauditref37_word.f k ((rd_T47 x8 x10).f3)).bind fun t245 => (kauditref37_NamesCheck.j1 k x0 x10 x8 x9 x10 (!t245) ((rd_T47 x8 x10).f0) ((rd_T47 x8 x10).f1) ((rd_T47 x8 x10).f2) ((rd_T47 x8 x10).f3))))) else (if ((rd_T47 x8 x10).f1) = 2 then (if ((rd_T47 x8 x10).f2) < 0 then (kauditref37_NamesCheck.j1 k x0 x10 x8 x9 x10 true ((rd_T47 x8 x10).f0) ((rd_T47 x8 x10).f1) ((rd_T47 x8 x10).f2) ((rd_T47 x8 x10).f3)) else (if ((rd_T47 x8 x10).f2) ≥ 4294967295 then (kauditref37_NamesCheck.j1 k x0 x10 x8 x9 x10 true ((rd_T47 x8 x10).f0) ((rd_T47 x8 x10).f1) ((rd_T47 x8 x10).f2) ((rd_T47 x8 x10).f3)) else ((kauditref37_word.f k ((rd_T47 x8 x10).f3)).bind fun t246 => (kauditref37_NamesCheck.j1 k x0 x10 x8 x9 x10 (!t246) ((rd_T47 x8 x10).f0) ((rd_T47 x8 x10).f1) ((rd_T47 x8 x10).f2) ((rd_T47 x8 x10).f3))))) else (kauditref37_NamesCheck.j1 k x0 x10 x8 x9 x10 true ((rd_T47 x8 x10).f0) ((rd_T47 x8 x10).f1) ((rd_T47 x8 x10).f2) ((rd_T47 x8 x10).f3)))))) else (none)) else (none)) else (some 0)
def kauditref37_NamesCheck.j1 : Nat → List (S47) → Int → List (S47) → Int → Int → Bool → Int → Int → Int → ByteArray → Option (Int)
  | 0, _, _, _, _, _, _, _, _, _, _ => none
  | k + 1, x0, x3, x8, x9, x10, x48, x245000, x245001, x245002, x245003 => if x48 = true then (some 371) else (if x3 > 0 then (if 0 ≤ (wrap64 (x3 - 1)) then (if (wrap64 (x3 - 1)) < (x0.length : Int) then ((kauditref37_compare.f ((rd_T47 x0 (wrap64 (x3 - 1))).f0) ((rd_T47 x0 (wrap64 (x3 - 1))).f1) ((rd_T47 x0 (wrap64 (x3 - 1))).f2) ((rd_T47 x0 (wrap64 (x3 - 1))).f3) x245000 x245001 x245002 x245003).bind fun t248 => (if t248 ≥ 0 then (some 372) else (kauditref37_NamesCheck.l0 k x0 x8 x9 (wrap64 (x10 + 1))))) else (none)) else (none)) else (kauditref37_NamesCheck.l0 k x0 x8 x9 (wrap64 (x10 + 1))))
end
def kauditref37_NamesCheck.f (k : Nat) (l0 : List (S47)) : Option (Int) := if (l0.length : Int) > 64 then (some 370) else (kauditref37_NamesCheck.l0 k l0 l0 (l0.length : Int) 0)
theorem kauditref37_NamesCheck.mono_l : ∀ k, (∀ y0 y1 y2 y3, LeO (kauditref37_NamesCheck.l0 k y0 y1 y2 y3) (kauditref37_NamesCheck.l0 (k + 1) y0 y1 y2 y3)) ∧ (∀ y0 y1 y2 y3 y4 y5 y6 y7 y8 y9, LeO (kauditref37_NamesCheck.j1 k y0 y1 y2 y3 y4 y5 y6 y7 y8 y9) (kauditref37_NamesCheck.j1 (k + 1) y0 y1 y2 y3 y4 y5 y6 y7 y8 y9))
  | 0 => ⟨fun _ _ _ _ r h => by simp [kauditref37_NamesCheck.l0] at h, fun _ _ _ _ _ _ _ _ _ _ r h => by simp [kauditref37_NamesCheck.j1] at h⟩
  | k + 1 => by
    obtain ⟨ih0, ih1⟩ := kauditref37_NamesCheck.mono_l k
    refine ⟨?_, ?_⟩
    · intro y0 y1 y2 y3
      unfold kauditref37_NamesCheck.l0
      repeat' first
      | (with_reducible exact ih0 _ _ _ _)
      | (with_reducible exact ih1 _ _ _ _ _ _ _ _ _ _)
      | (with_reducible exact kauditref37_word.mono _ _)
      | (with_reducible exact LeO.refl _)
      | (with_reducible exact LeO.none _)
      | (with_reducible refine LeO.ite ?_ ?_)
      | (with_reducible refine LeO.bind ?_ (fun _ => ?_))
      | exact ih0 _ _ _ _
      | exact ih1 _ _ _ _ _ _ _ _ _ _
      | exact kauditref37_word.mono _ _
      | exact LeO.none _
      | refine LeO.ite ?_ ?_
      | refine LeO.bind ?_ (fun _ => ?_)
    · intro y0 y1 y2 y3 y4 y5 y6 y7 y8 y9
      unfold kauditref37_NamesCheck.j1
      repeat' first
      | (with_reducible exact ih0 _ _ _ _)
      | (with_reducible exact ih1 _ _ _ _ _ _ _ _ _ _)
      | (with_reducible exact kauditref37_word.mono _ _)
      | (with_reducible exact LeO.refl _)
      | (with_reducible exact LeO.none _)
      | (with_reducible refine LeO.ite ?_ ?_)
      | (with_reducible refine LeO.bind ?_ (fun _ => ?_))
      | exact ih0 _ _ _ _
      | exact ih1 _ _ _ _ _ _ _ _ _ _
      | exact kauditref37_word.mono _ _
      | exact LeO.none _
      | refine LeO.ite ?_ ?_
      | refine LeO.bind ?_ (fun _ => ?_)
theorem kauditref37_NamesCheck.mono : ∀ a0 k, LeO (kauditref37_NamesCheck.f k a0) (kauditref37_NamesCheck.f (k + 1) a0) := by
  intro a0 k
  obtain ⟨ih0, ih1⟩ := kauditref37_NamesCheck.mono_l k
  unfold kauditref37_NamesCheck.f
  repeat' first
      | (with_reducible exact ih0 _ _ _ _)
      | (with_reducible exact ih1 _ _ _ _ _ _ _ _ _ _)
      | (with_reducible exact kauditref37_word.mono _ _)
      | (with_reducible exact LeO.refl _)
      | (with_reducible exact LeO.none _)
      | (with_reducible refine LeO.ite ?_ ?_)
      | (with_reducible refine LeO.bind ?_ (fun _ => ?_))
      | exact ih0 _ _ _ _
      | exact ih1 _ _ _ _ _ _ _ _ _ _
      | exact kauditref37_word.mono _ _
      | exact LeO.none _
      | refine LeO.ite ?_ ?_
      | refine LeO.bind ?_ (fun _ => ?_)
def kauditref37_NamesCheck.T8 : Bool × List (List Nat × List Nat) := (true, [([], []), ([0], [0]), ([1], [1]), ([2], [2]), ([2], [2]), ([4, 2], [2, 4]), ([3, 5, 2], [2, 3, 5]), ([6, 2], [2, 6]), ([2], [2]), ([7, 8, 2, 2], [2, 7, 8]), ([9, 2], [2, 9]), ([2, 10], [2, 10])])
def kauditref37_NamesCheck.B8 : List Nat := [0, 1, 3, 7, 7, 23, 63, 127, 7, 511, 1023, 2047]
theorem kauditref37_NamesCheck.tab8 : rtab .any (opsOf Tryd.f17 8) = kauditref37_NamesCheck.T8 := by kernel_rfl
theorem kauditref37_NamesCheck.bits8 : waitsOk kauditref37_NamesCheck.T8.2 kauditref37_NamesCheck.B8 = true := by kernel_rfl
set_option maxHeartbeats 8000000 in
set_option maxRecDepth 100000 in
theorem kauditref37_NamesCheck.calls (k : Nat) (A0 : Option Addr) (c0 : Nat) (l0 : List (S47)) (r : Int) (w : World) (hr0 : Kd.C k47 w A0 l0.length l0) (hc0 : l0.length ≤ c0) (h : kauditref37_NamesCheck.f k l0 = some r) :
    Calls Tryd.prog 17 #[.slice A0 l0.length c0] w fun e w' => e = .returned (.int .i64 r) ∧ Below w.heap.size w w' := by
  have hu47 := Tryd.underlying47
  have HR0 := Aside0.mk hr0
  have HC0 := Aside0.mk hc0
  clear hr0 hc0
  have HB := Aside0.mk (Below.refl w.heap.size w)
  have H : (if (l0.length : Int) > 64 then (some 370) else (kauditref37_NamesCheck.l0 k l0 l0 (l0.length : Int) 0)) = some r := h
  clear h
  by_cases c2 : (l0.length : Int) > 64
  · rw [if_pos c2] at H
    have c2b0 : decide (64 < (l0.length : Int)) = true := decide_eq_true c2
    have c2b1 : decide (64 < l0.length) = true := decide_eq_true (by omega)
    clear c2
    obtain rfl := Option.some.inj H
    go_enter Tryd.func17, Tryd.ntmps17
    go_wp2
    go_ret
    exact ⟨by first | rfl | (simp [errW_none, errW_some] <;> rfl) | (simp [*, errW_none, errW_some] <;> rfl) | (simp only [isEmpty_ne_, isEmpty_eq_]; rfl) | (simp [*, isEmpty_ne_, isEmpty_eq_]; done), by repeat (first | (with_reducible first | exact HB.out | apply below_alloc | apply pw_below_drewN | apply below_drew1) | exact HB.out)⟩
  · rw [if_neg c2] at H
    have c2b0 : decide (64 < (l0.length : Int)) = false := decide_eq_false c2
    have c2b1 : decide (64 < l0.length) = false := decide_eq_false (by omega)
    clear c2
    have H' := Aside0.mk H
    clear H
    go_enter Tryd.func17, Tryd.ntmps17
    go_wp2
    go_loopg [10] k (fun kq v10 w' => ∃ (x10_1 : Int), v10 = .int .i64 x10_1 ∧ Aside0 (kauditref37_NamesCheck.l0 kq l0 l0 (l0.length : Int) x10_1 = some r) ∧ Aside0 (kq ≤ k) ∧ Aside0 (Below w.heap.size w w'))
    case atStart => exact ⟨(0), (by first | rfl | (simp; done) | (simp [*]; done)), H', ⟨Nat.le_refl _⟩, ⟨by repeat (first | (with_reducible first | exact HB.out | apply below_alloc | apply pw_below_drewN | apply below_drew1) | exact HB.out)⟩⟩
    case round =>
      clear H'
      try clear c1
      try clear c2
      try clear c2b0
      try clear c2b1
      try clear p2
      obtain ⟨x10_1, rfl, HA, HK1, HB⟩ := hrel
      cases gk with
      | zero => exact absurd HA.out (by simp [kauditref37_NamesCheck.l0])
      | succ k1 =>
        have H := HA.out
        clear HA
        simp only [kauditref37_NamesCheck.l0] at H
        by_cases c3 : x10_1 < (l0.length : Int)
        · rw [if_pos c3] at H
          have c3b0 : decide (x10_1 < (l0.length : Int)) = true := decide_eq_true c3
          clear c3
          by_cases c4 : 0 ≤ x10_1
          · rw [if_pos c4] at H
            have c4b0 : decide (0 ≤ x10_1) = true := decide_eq_true c4
            clear c4
            by_cases c5 : x10_1 < (l0.length : Int)
            · rw [if_pos c5] at H
              have c5b0 : decide (x10_1 < (l0.length : Int)) = true := decide_eq_true c5
              clear c5
              have HC6 := Aside0.mk H
              clear H
              have p243 : 0 ≤ (x10_1 : Int) := of_decide_eq_true (by first | (with_reducible assumption) | assumption)
              have q243 : x10_1 < (l0.length : Int) := of_decide_eq_true (by first | (with_reducible assumption) | assumption)
              obtain ⟨ad243, e243, hx243_0, hx243_1, hx243_2, hx243_3⟩ := at_T47 HR0.out x10_1 p243 q243
              cases e243
              replace hx243_0 := (HB.out.cell (World.block_lt_of_cell? w _ hx243_0)).trans hx243_0
              replace hx243_1 := (HB.out.cell (World.block_lt_of_cell? w _ hx243_1)).trans hx243_1
              replace hx243_2 := (HB.out.cell (World.block_lt_of_cell? w _ hx243_2)).trans hx243_2
              replace hx243_3 := (HB.out.cell (World.block_lt_of_cell? w _ hx243_3)).trans hx243_3
              replace p243 := eq_true p243
              replace q243 := eq_true q243
              go_upto_region 6 with (first | ((with_reducible refine gate_dst (N := 4) rfl ?_); refine box_event ?hg (N := 4) ?hd (cs := #[.int .i64 0, .int .i64 0, .int .i64 0, .string (⟨#[]⟩ : ByteArray)]) (t := 47) ?hr ?_; (case hd => rfl); (case hg => rfl); (case hr => first | (go_simp; done) | (go_simp; rfl)); intro gb244 hg w7 hbox hb; have n0_ := Aside0.mk (below_step (by repeat (first | (with_reducible first | exact HB.out | apply below_alloc | apply pw_below_drewN | apply below_drew1) | exact HB.out)) hb); have n1_ := Aside0.mk (hbox); have n2_ := Aside0.mk ((by rw [hg]; exact (below_size (by repeat (first | (with_reducible first | exact HB.out | apply below_alloc | apply pw_below_drewN | apply below_drew1) | exact HB.out))) : w.heap.size ≤ gb244)); have n3_ := Aside0.mk ((by rw [hg]; exact (below_size (by repeat (first | (with_reducible first | exact HB.out | apply below_alloc | apply pw_below_drewN | apply below_drew1) | exact HB.out))) : w.heap.size ≤ gb244)); clear HB; have HB := n0_; have BK244 := n1_; have GW244 := n2_; have GE244 := n3_; clear n0_ n1_ n2_ n3_; clear hb hbox hg; have hcz8_0 : w7.cell? ⟨gb244, 0, none⟩ = some (.int .i64 0) := (blk_cell BK244.out 0).trans rfl; have hcz8_1 : w7.cell? ⟨gb244, 1, none⟩ = some (.int .i64 0) := (blk_cell BK244.out 1).trans rfl; have hcz8_2 : w7.cell? ⟨gb244, 2, none⟩ = some (.int .i64 0) := (blk_cell BK244.out 2).trans rfl; have hcz8_3 : w7.cell? ⟨gb244, 3, none⟩ = some (.string (⟨#[]⟩ : ByteArray)) := (blk_cell BK244.out 3).trans rfl; have hfz8_0 := blk_frozen BK244.out 0; have hfz8_1 := blk_frozen BK244.out 1; have hfz8_2 := blk_frozen BK244.out 2; have hfz8_3 := blk_frozen BK244.out 3))
              (try simp only [Act.put, List.setIfInBounds_toArray, List.set_cons_zero, List.set_cons_succ])
              go_cut [48] (fun v48 wc => ∃ (kq : Nat) (x48_5 : Bool), v48 = .bool x48_5 ∧ Aside0 (kauditref37_NamesCheck.j1 kq l0 x10_1 l0 (l0.length : Int) x10_1 x48_5 ((rd_T47 l0 x10_1).f0) ((rd_T47 l0 x10_1).f1) ((rd_T47 l0 x10_1).f2) ((rd_T47 l0 x10_1).f3) = some r) ∧ Aside0 (kq ≤ k1) ∧ Aside0 (wc.heap[gb244]? = some (.cells #[.int .i64 ((rd_T47 l0 x10_1).f0), .int .i64 ((rd_T47 l0 x10_1).f1), .int .i64 ((rd_T47 l0 x10_1).f2), .string ((rd_T47 l0 x10_1).f3)] 47 (0, 0))) ∧ Aside0 (Below w.heap.size w wc))
              case first =>
                have H := HC6.out
                clear HC6
                by_cases c9 : ((rd_T47 l0 x10_1).f0) < 0
                · rw [if_pos c9] at H
                  have c9b0 : decide (((rd_T47 l0 x10_1).f0) < 0) = true := decide_eq_true c9
                  clear c9
                  (first | rw [c9b0] | (simp only [i64_w, i32_w]; rw [c9b0]) | skip)
                  have H' := Aside0.mk H
                  clear H
                  have hcz10_0 : w7.cell? ⟨gb244, 0, none⟩ = some (.int .i64 0) := (blk_cell BK244.out 0).trans rfl
                  have hcz10_1 : w7.cell? ⟨gb244, 1, none⟩ = some (.int .i64 0) := (blk_cell BK244.out 1).trans rfl
                  have hcz10_2 : w7.cell? ⟨gb244, 2, none⟩ = some (.int .i64 0) := (blk_cell BK244.out 2).trans rfl
                  have hcz10_3 : w7.cell? ⟨gb244, 3, none⟩ = some (.string (⟨#[]⟩ : ByteArray)) := (blk_cell BK244.out 3).trans rfl
                  have hfz10_0 := blk_frozen BK244.out 0
                  have hfz10_1 := blk_frozen BK244.out 1
                  have hfz10_2 := blk_frozen BK244.out 2
                  have hfz10_3 := blk_frozen BK244.out 3
                  go_wp2
                  go_meet
                  case rel => exact ⟨_, (true), (by first | rfl | (simp; done) | (simp [*]; done)), H', ⟨by have := HK1.out; first | omega | exact Nat.le_refl _⟩, ⟨by (with_reducible repeat (first | refine blk_drewN ?_ _ | refine blk_drew ?_ | refine blk_alloc ?_ _)); refine blk_put (cs := #[.int .i64 ((rd_T47 l0 x10_1).f0), .int .i64 ((rd_T47 l0 x10_1).f1), .int .i64 ((rd_T47 l0 x10_1).f2), .string (⟨#[]⟩ : ByteArray)]) ?_ 3 _ rfl; (with_reducible repeat (first | refine blk_drewN ?_ _ | refine blk_drew ?_ | refine blk_alloc ?_ _)); refine blk_put (cs := #[.int .i64 ((rd_T47 l0 x10_1).f0), .int .i64 ((rd_T47 l0 x10_1).f1), .int .i64 0, .string (⟨#[]⟩ : ByteArray)]) ?_ 2 _ rfl; (with_reducible repeat (first | refine blk_drewN ?_ _ | refine blk_drew ?_ | refine blk_alloc ?_ _)); refine blk_put (cs := #[.int .i64 ((rd_T47 l0 x10_1).f0), .int .i64 0, .int .i64 0, .string (⟨#[]⟩ : ByteArray)]) ?_ 1 _ rfl; (with_reducible repeat (first | refine blk_drewN ?_ _ | refine blk_drew ?_ | refine blk_alloc ?_ _)); refine blk_put (cs := #[.int .i64 0, .int .i64 0, .int .i64 0, .string (⟨#[]⟩ : ByteArray)]) ?_ 0 _ rfl; (with_reducible repeat (first | refine blk_drewN ?_ _ | refine blk_drew ?_ | refine blk_alloc ?_ _)); exact BK244.out⟩, ⟨by repeat (first | (with_reducible first | exact HB.out | apply below_alloc | apply pw_below_drewN | apply below_drew1 | refine below_set ?_ GE244.out) | exact HB.out)⟩⟩
                · rw [if_neg c9] at H
                  have c9b0 : decide (((rd_T47 l0 x10_1).f0) < 0) = false := decide_eq_false c9
                  clear c9
                  (first | rw [c9b0] | (simp only [i64_w, i32_w]; rw [c9b0]) | skip)
                  by_cases c11 : ((rd_T47 l0 x10_1).f0) > 1099511627776
                  · rw [if_pos c11] at H
                    have c11b0 : decide (1099511627776 < ((rd_T47 l0 x10_1).f0)) = true := decide_eq_true c11
                    clear c11
                    have H' := Aside0.mk H
                    clear H
                    have hcz12_0 : w7.cell? ⟨gb244, 0, none⟩ = some (.int .i64 0) := (blk_cell BK244.out 0).trans rfl
                    have hcz12_1 : w7.cell? ⟨gb244, 1, none⟩ = some (.int .i64 0) := (blk_cell BK244.out 1).trans rfl
                    have hcz12_2 : w7.cell? ⟨gb244, 2, none⟩ = some (.int .i64 0) := (blk_cell BK244.out 2).trans rfl
                    have hcz12_3 : w7.cell? ⟨gb244, 3, none⟩ = some (.string (⟨#[]⟩ : ByteArray)) := (blk_cell BK244.out 3).trans rfl
                    have hfz12_0 := blk_frozen BK244.out 0
                    have hfz12_1 := blk_frozen BK244.out 1
                    have hfz12_2 := blk_frozen BK244.out 2
                    have hfz12_3 := blk_frozen BK244.out 3
                    go_wp2
                    go_meet
                    case rel => exact ⟨_, (true), (by first | rfl | (simp; done) | (simp [*]; done)), H', ⟨by have := HK1.out; first | omega | exact Nat.le_refl _⟩, ⟨by (with_reducible repeat (first | refine blk_drewN ?_ _ | refine blk_drew ?_ | refine blk_alloc ?_ _)); refine blk_put (cs := #[.int .i64 ((rd_T47 l0 x10_1).f0), .int .i64 ((rd_T47 l0 x10_1).f1), .int .i64 ((rd_T47 l0 x10_1).f2), .string (⟨#[]⟩ : ByteArray)]) ?_ 3 _ rfl; (with_reducible repeat (first | refine blk_drewN ?_ _ | refine blk_drew ?_ | refine blk_alloc ?_ _)); refine blk_put (cs := #[.int .i64 ((rd_T47 l0 x10_1).f0), .int .i64 ((rd_T47 l0 x10_1).f1), .int .i64 0, .string (⟨#[]⟩ : ByteArray)]) ?_ 2 _ rfl; (with_reducible repeat (first | refine blk_drewN ?_ _ | refine blk_drew ?_ | refine blk_alloc ?_ _)); refine blk_put (cs := #[.int .i64 ((rd_T47 l0 x10_1).f0), .int .i64 0, .int .i64 0, .string (⟨#[]⟩ : ByteArray)]) ?_ 1 _ rfl; (with_reducible repeat (first | refine blk_drewN ?_ _ | refine blk_drew ?_ | refine blk_alloc ?_ _)); refine blk_put (cs := #[.int .i64 0, .int .i64 0, .int .i64 0, .string (⟨#[]⟩ : ByteArray)]) ?_ 0 _ rfl; (with_reducible repeat (first | refine blk_drewN ?_ _ | refine blk_drew ?_ | refine blk_alloc ?_ _)); exact BK244.out⟩, ⟨by repeat (first | (with_reducible first | exact HB.out | apply below_alloc | apply pw_below_drewN | apply below_drew1 | refine below_set ?_ GE244.out) | exact HB.out)⟩⟩
                  · rw [if_neg c11] at H
                    have c11b0 : decide (1099511627776 < ((rd_T47 l0 x10_1).f0)) = false := decide_eq_false c11
                    clear c11
                    by_cases c13 : ((rd_T47 l0 x10_1).f1) = 1
                    · rw [if_pos c13] at H
                      have c13b0 : (((rd_T47 l0 x10_1).f1) == 1) = true := beq_iff_eq.mpr c13
                      have c13b1 : (((rd_T47 l0 x10_1).f1) != 1) = false := bne_eq_false_iff_eq.mpr c13
                      clear c13
                      by_cases c14 : ((rd_T47 l0 x10_1).f2) < 0
                      · rw [if_pos c14] at H
                        have c14b0 : decide (((rd_T47 l0 x10_1).f2) < 0) = true := decide_eq_true c14
                        clear c14
                        have H' := Aside0.mk H
                        clear H
                        have hcz15_0 : w7.cell? ⟨gb244, 0, none⟩ = some (.int .i64 0) := (blk_cell BK244.out 0).trans rfl
                        have hcz15_1 : w7.cell? ⟨gb244, 1, none⟩ = some (.int .i64 0) := (blk_cell BK244.out 1).trans rfl
                        have hcz15_2 : w7.cell? ⟨gb244, 2, none⟩ = some (.int .i64 0) := (blk_cell BK244.out 2).trans rfl
                        have hcz15_3 : w7.cell? ⟨gb244, 3, none⟩ = some (.string (⟨#[]⟩ : ByteArray)) := (blk_cell BK244.out 3).trans rfl
                        have hfz15_0 := blk_frozen BK244.out 0
                        have hfz15_1 := blk_frozen BK244.out 1
                        have hfz15_2 := blk_frozen BK244.out 2
                        have hfz15_3 := blk_frozen BK244.out 3
                        go_wp2
                        go_meet
                        case rel => exact ⟨_, (true), (by first | rfl | (simp; done) | (simp [*]; done)), H', ⟨by have := HK1.out; first | omega | exact Nat.le_refl _⟩, ⟨by (with_reducible repeat (first | refine blk_drewN ?_ _ | refine blk_drew ?_ | refine blk_alloc ?_ _)); refine blk_put (cs := #[.int .i64 ((rd_T47 l0 x10_1).f0), .int .i64 ((rd_T47 l0 x10_1).f1), .int .i64 ((rd_T47 l0 x10_1).f2), .string (⟨#[]⟩ : ByteArray)]) ?_ 3 _ rfl; (with_reducible repeat (first | refine blk_drewN ?_ _ | refine blk_drew ?_ | refine blk_alloc ?_ _)); refine blk_put (cs := #[.int .i64 ((rd_T47 l0 x10_1).f0), .int .i64 ((rd_T47 l0 x10_1).f1), .int .i64 0, .string (⟨#[]⟩ : ByteArray)]) ?_ 2 _ rfl; (with_reducible repeat (first | refine blk_drewN ?_ _ | refine blk_drew ?_ | refine blk_alloc ?_ _)); refine blk_put (cs := #[.int .i64 ((rd_T47 l0 x10_1).f0), .int .i64 0, .int .i64 0, .string (⟨#[]⟩ : ByteArray)]) ?_ 1 _ rfl; (with_reducible repeat (first | refine blk_drewN ?_ _ | refine blk_drew ?_ | refine blk_alloc ?_ _)); refine blk_put (cs := #[.int .i64 0, .int .i64 0, .int .i64 0, .string (⟨#[]⟩ : ByteArray)]) ?_ 0 _ rfl; (with_reducible repeat (first | refine blk_drewN ?_ _ | refine blk_drew ?_ | refine blk_alloc ?_ _)); exact BK244.out⟩, ⟨by repeat (first | (with_reducible first | exact HB.out | apply below_alloc | apply pw_below_drewN | apply below_drew1 | refine below_set ?_ GE244.out) | exact HB.out)⟩⟩
                      · rw [if_neg c14] at H
                        have c14b0 : decide (((rd_T47 l0 x10_1).f2) < 0) = false := decide_eq_false c14
                        clear c14
                        by_cases c16 : ((rd_T47 l0 x10_1).f2) ≥ 4294967295
                        · rw [if_pos c16] at H
                          have c16b0 : decide (4294967295 ≤ ((rd_T47 l0 x10_1).f2)) = true := decide_eq_true c16
                          clear c16
                          have H' := Aside0.mk H
                          clear H
                          have hcz17_0 : w7.cell? ⟨gb244, 0, none⟩ = some (.int .i64 0) := (blk_cell BK244.out 0).trans rfl
                          have hcz17_1 : w7.cell? ⟨gb244, 1, none⟩ = some (.int .i64 0) := (blk_cell BK244.out 1).trans rfl
                          have hcz17_2 : w7.cell? ⟨gb244, 2, none⟩ = some (.int .i64 0) := (blk_cell BK244.out 2).trans rfl
                          have hcz17_3 : w7.cell? ⟨gb244, 3, none⟩ = some (.string (⟨#[]⟩ : ByteArray)) := (blk_cell BK244.out 3).trans rfl
                          have hfz17_0 := blk_frozen BK244.out 0
                          have hfz17_1 := blk_frozen BK244.out 1
                          have hfz17_2 := blk_frozen BK244.out 2
                          have hfz17_3 := blk_frozen BK244.out 3
                          go_wp2
                          go_meet
                          case rel => exact ⟨_, (true), (by first | rfl | (simp; done) | (simp [*]; done)), H', ⟨by have := HK1.out; first | omega | exact Nat.le_refl _⟩, ⟨by (with_reducible repeat (first | refine blk_drewN ?_ _ | refine blk_drew ?_ | refine blk_alloc ?_ _)); refine blk_put (cs := #[.int .i64 ((rd_T47 l0 x10_1).f0), .int .i64 ((rd_T47 l0 x10_1).f1), .int .i64 ((rd_T47 l0 x10_1).f2), .string (⟨#[]⟩ : ByteArray)]) ?_ 3 _ rfl; (with_reducible repeat (first | refine blk_drewN ?_ _ | refine blk_drew ?_ | refine blk_alloc ?_ _)); refine blk_put (cs := #[.int .i64 ((rd_T47 l0 x10_1).f0), .int .i64 ((rd_T47 l0 x10_1).f1), .int .i64 0, .string (⟨#[]⟩ : ByteArray)]) ?_ 2 _ rfl; (with_reducible repeat (first | refine blk_drewN ?_ _ | refine blk_drew ?_ | refine blk_alloc ?_ _)); refine blk_put (cs := #[.int .i64 ((rd_T47 l0 x10_1).f0), .int .i64 0, .int .i64 0, .string (⟨#[]⟩ : ByteArray)]) ?_ 1 _ rfl; (with_reducible repeat (first | refine blk_drewN ?_ _ | refine blk_drew ?_ | refine blk_alloc ?_ _)); refine blk_put (cs := #[.int .i64 0, .int .i64 0, .int .i64 0, .string (⟨#[]⟩ : ByteArray)]) ?_ 0 _ rfl; (with_reducible repeat (first | refine blk_drewN ?_ _ | refine blk_drew ?_ | refine blk_alloc ?_ _)); exact BK244.out⟩, ⟨by repeat (first | (with_reducible first | exact HB.out | apply below_alloc | apply pw_below_drewN | apply below_drew1 | refine below_set ?_ GE244.out) | exact HB.out)⟩⟩
                        · rw [if_neg c16] at H
                          have c16b0 : decide (4294967295 ≤ ((rd_T47 l0 x10_1).f2)) = false := decide_eq_false c16
                          clear c16
                          replace H := Option.bind_eq_some_iff.mp H
                          obtain ⟨t245, A180, H⟩ := H
                          replace H : (kauditref37_NamesCheck.j1 k1 l0 x10_1 l0 (l0.length : Int) x10_1 (!t245) ((rd_T47 l0 x10_1).f0) ((rd_T47 l0 x10_1).f1) ((rd_T47 l0 x10_1).f2) ((rd_T47 l0 x10_1).f3)) = some r := H
                          have A18 := Aside0.mk A180
                          clear A180
                          have H' := Aside0.mk H
                          clear H
                          have hcz19_0 : w7.cell? ⟨gb244, 0, none⟩ = some (.int .i64 0) := (blk_cell BK244.out 0).trans rfl
                          have hcz19_1 : w7.cell? ⟨gb244, 1, none⟩ = some (.int .i64 0) := (blk_cell BK244.out 1).trans rfl
                          have hcz19_2 : w7.cell? ⟨gb244, 2, none⟩ = some (.int .i64 0) := (blk_cell BK244.out 2).trans rfl
                          have hcz19_3 : w7.cell? ⟨gb244, 3, none⟩ = some (.string (⟨#[]⟩ : ByteArray)) := (blk_cell BK244.out 3).trans rfl
                          have hfz19_0 := blk_frozen BK244.out 0
                          have hfz19_1 := blk_frozen BK244.out 1
                          have hfz19_2 := blk_frozen BK244.out 2
                          have hfz19_3 := blk_frozen BK244.out 3
                          go_wp2_with (first | (go_at_call 63; (with_reducible refine (kauditref37_word.calls k1 ((rd_T47 l0 x10_1).f3) t245 _ A18.out).mono ?_); rintro e w' ⟨rfl, ⟨nd, rfl⟩⟩))
                          go_meet
                          case rel => exact ⟨_, (!t245), (by first | rfl | (simp; done) | (simp [*]; done)), H', ⟨by have := HK1.out; first | omega | exact Nat.le_refl _⟩, ⟨by (with_reducible repeat (first | refine blk_drewN ?_ _ | refine blk_drew ?_ | refine blk_alloc ?_ _)); refine blk_put (cs := #[.int .i64 ((rd_T47 l0 x10_1).f0), .int .i64 ((rd_T47 l0 x10_1).f1), .int .i64 ((rd_T47 l0 x10_1).f2), .string (⟨#[]⟩ : ByteArray)]) ?_ 3 _ rfl; (with_reducible repeat (first | refine blk_drewN ?_ _ | refine blk_drew ?_ | refine blk_alloc ?_ _)); refine blk_put (cs := #[.int .i64 ((rd_T47 l0 x10_1).f0), .int .i64 ((rd_T47 l0 x10_1).f1), .int .i64 0, .string (⟨#[]⟩ : ByteArray)]) ?_ 2 _ rfl; (with_reducible repeat (first | refine blk_drewN ?_ _ | refine blk_drew ?_ | refine blk_alloc ?_ _)); refine blk_put (cs := #[.int .i64 ((rd_T47 l0 x10_1).f0), .int .i64 0, .int .i64 0, .string (⟨#[]⟩ : ByteArray)]) ?_ 1 _ rfl; (with_reducible repeat (first | refine blk_drewN ?_ _ | refine blk_drew ?_ | refine blk_alloc ?_ _)); refine blk_put (cs := #[.int .i64 0, .int .i64 0, .int .i64 0, .string (⟨#[]⟩ : ByteArray)]) ?_ 0 _ rfl; (with_reducible repeat (first | refine blk_drewN ?_ _ | refine blk_drew ?_ | refine blk_alloc ?_ _)); exact BK244.out⟩, ⟨by repeat (first | (with_reducible first | exact HB.out | apply below_alloc | apply pw_below_drewN | apply below_drew1 | refine below_set ?_ GE244.out) | exact HB.out)⟩⟩
                    · rw [if_neg c13] at H
                      have c13b0 : (((rd_T47 l0 x10_1).f1) == 1) = false := beq_eq_false_iff_ne.mpr c13
                      have c13b1 : (((rd_T47 l0 x10_1).f1) != 1) = true := bne_iff_ne.mpr c13
                      by_cases c20 : ((rd_T47 l0 x10_1).f1) = 2
                      · rw [if_pos c20] at H
                        have c20b0 : (((rd_T47 l0 x10_1).f1) == 2) = true := beq_iff_eq.mpr c20
                        have c20b1 : (((rd_T47 l0 x10_1).f1) != 2) = false := bne_eq_false_iff_eq.mpr c20
                        clear c20
                        by_cases c21 : ((rd_T47 l0 x10_1).f2) < 0
                        · rw [if_pos c21] at H
                          have c21b0 : decide (((rd_T47 l0 x10_1).f2) < 0) = true := decide_eq_true c21
                          clear c21
                          have H' := Aside0.mk H
                          clear H
                          have hcz22_0 : w7.cell? ⟨gb244, 0, none⟩ = some (.int .i64 0) := (blk_cell BK244.out 0).trans rfl
                          have hcz22_1 : w7.cell? ⟨gb244, 1, none⟩ = some (.int .i64 0) := (blk_cell BK244.out 1).trans rfl
                          have hcz22_2 : w7.cell? ⟨gb244, 2, none⟩ = some (.int .i64 0) := (blk_cell BK244.out 2).trans rfl
                          have hcz22_3 : w7.cell? ⟨gb244, 3, none⟩ = some (.string (⟨#[]⟩ : ByteArray)) := (blk_cell BK244.out 3).trans rfl
                          have hfz22_0 := blk_frozen BK244.out 0
                          have hfz22_1 := blk_frozen BK244.out 1
                          have hfz22_2 := blk_frozen BK244.out 2
                          have hfz22_3 := blk_frozen BK244.out 3
                          go_wp2
                          go_meet
                          case rel => exact ⟨_, (true), (by first | rfl | (simp; done) | (simp [*]; done)), H', ⟨by have := HK1.out; first | omega | exact Nat.le_refl _⟩, ⟨by (with_reducible repeat (first | refine blk_drewN ?_ _ | refine blk_drew ?_ | refine blk_alloc ?_ _)); refine blk_put (cs := #[.int .i64 ((rd_T47 l0 x10_1).f0), .int .i64 ((rd_T47 l0 x10_1).f1), .int .i64 ((rd_T47 l0 x10_1).f2), .string (⟨#[]⟩ : ByteArray)]) ?_ 3 _ rfl; (with_reducible repeat (first | refine blk_drewN ?_ _ | refine blk_drew ?_ | refine blk_alloc ?_ _)); refine blk_put (cs := #[.int .i64 ((rd_T47 l0 x10_1).f0), .int .i64 ((rd_T47 l0 x10_1).f1), .int .i64 0, .string (⟨#[]⟩ : ByteArray)]) ?_ 2 _ rfl; (with_reducible repeat (first | refine blk_drewN ?_ _ | refine blk_drew ?_ | refine blk_alloc ?_ _)); refine blk_put (cs := #[.int .i64 ((rd_T47 l0 x10_1).f0), .int .i64 0, .int .i64 0, .string (⟨#[]⟩ : ByteArray)]) ?_ 1 _ rfl; (with_reducible repeat (first | refine blk_drewN ?_ _ | refine blk_drew ?_ | refine blk_alloc ?_ _)); refine blk_put (cs := #[.int .i64 0, .int .i64 0, .int .i64 0, .string (⟨#[]⟩ : ByteArray)]) ?_ 0 _ rfl; (with_reducible repeat (first | refine blk_drewN ?_ _ | refine blk_drew ?_ | refine blk_alloc ?_ _)); exact BK244.out⟩, ⟨by repeat (first | (with_reducible first | exact HB.out | apply below_alloc | apply pw_below_drewN | apply below_drew1 | refine below_set ?_ GE244.out) | exact HB.out)⟩⟩
                        · rw [if_neg c21] at H
                          have c21b0 : decide (((rd_T47 l0 x10_1).f2) < 0) = false := decide_eq_false c21
                          clear c21
                          by_cases c23 : ((rd_T47 l0 x10_1).f2) ≥ 4294967295
                          · rw [if_pos c23] at H
                            have c23b0 : decide (4294967295 ≤ ((rd_T47 l0 x10_1).f2)) = true := decide_eq_true c23
                            clear c23
                            have H' := Aside0.mk H
                            clear H
                            have hcz24_0 : w7.cell? ⟨gb244, 0, none⟩ = some (.int .i64 0) := (blk_cell BK244.out 0).trans rfl
                            have hcz24_1 : w7.cell? ⟨gb244, 1, none⟩ = some (.int .i64 0) := (blk_cell BK244.out 1).trans rfl
                            have hcz24_2 : w7.cell? ⟨gb244, 2, none⟩ = some (.int .i64 0) := (blk_cell BK244.out 2).trans rfl
                            have hcz24_3 : w7.cell? ⟨gb244, 3, none⟩ = some (.string (⟨#[]⟩ : ByteArray)) := (blk_cell BK244.out 3).trans rfl
                            have hfz24_0 := blk_frozen BK244.out 0
                            have hfz24_1 := blk_frozen BK244.out 1
                            have hfz24_2 := blk_frozen BK244.out 2
                            have hfz24_3 := blk_frozen BK244.out 3
                            go_wp2
                            go_meet
                            case rel => exact ⟨_, (true), (by first | rfl | (simp; done) | (simp [*]; done)), H', ⟨by have := HK1.out; first | omega | exact Nat.le_refl _⟩, ⟨by (with_reducible repeat (first | refine blk_drewN ?_ _ | refine blk_drew ?_ | refine blk_alloc ?_ _)); refine blk_put (cs := #[.int .i64 ((rd_T47 l0 x10_1).f0), .int .i64 ((rd_T47 l0 x10_1).f1), .int .i64 ((rd_T47 l0 x10_1).f2), .string (⟨#[]⟩ : ByteArray)]) ?_ 3 _ rfl; (with_reducible repeat (first | refine blk_drewN ?_ _ | refine blk_drew ?_ | refine blk_alloc ?_ _)); refine blk_put (cs := #[.int .i64 ((rd_T47 l0 x10_1).f0), .int .i64 ((rd_T47 l0 x10_1).f1), .int .i64 0, .string (⟨#[]⟩ : ByteArray)]) ?_ 2 _ rfl; (with_reducible repeat (first | refine blk_drewN ?_ _ | refine blk_drew ?_ | refine blk_alloc ?_ _)); refine blk_put (cs := #[.int .i64 ((rd_T47 l0 x10_1).f0), .int .i64 0, .int .i64 0, .string (⟨#[]⟩ : ByteArray)]) ?_ 1 _ rfl; (with_reducible repeat (first | refine blk_drewN ?_ _ | refine blk_drew ?_ | refine blk_alloc ?_ _)); refine blk_put (cs := #[.int .i64 0, .int .i64 0, .int .i64 0, .string (⟨#[]⟩ : ByteArray)]) ?_ 0 _ rfl; (with_reducible repeat (first | refine blk_drewN ?_ _ | refine blk_drew ?_ | refine blk_alloc ?_ _)); exact BK244.out⟩, ⟨by repeat (first | (with_reducible first | exact HB.out | apply below_alloc | apply pw_below_drewN | apply below_drew1 | refine below_set ?_ GE244.out) | exact HB.out)⟩⟩
                          · rw [if_neg c23] at H
                            have c23b0 : decide (4294967295 ≤ ((rd_T47 l0 x10_1).f2)) = false := decide_eq_false c23
                            clear c23
                            replace H := Option.bind_eq_some_iff.mp H
                            obtain ⟨t246, A250, H⟩ := H
                            replace H : (kauditref37_NamesCheck.j1 k1 l0 x10_1 l0 (l0.length : Int) x10_1 (!t246) ((rd_T47 l0 x10_1).f0) ((rd_T47 l0 x10_1).f1) ((rd_T47 l0 x10_1).f2) ((rd_T47 l0 x10_1).f3)) = some r := H
                            have A25 := Aside0.mk A250
                            clear A250
                            have H' := Aside0.mk H
                            clear H
                            have hcz26_0 : w7.cell? ⟨gb244, 0, none⟩ = some (.int .i64 0) := (blk_cell BK244.out 0).trans rfl
                            have hcz26_1 : w7.cell? ⟨gb244, 1, none⟩ = some (.int .i64 0) := (blk_cell BK244.out 1).trans rfl
                            have hcz26_2 : w7.cell? ⟨gb244, 2, none⟩ = some (.int .i64 0) := (blk_cell BK244.out 2).trans rfl
                            have hcz26_3 : w7.cell? ⟨gb244, 3, none⟩ = some (.string (⟨#[]⟩ : ByteArray)) := (blk_cell BK244.out 3).trans rfl
                            have hfz26_0 := blk_frozen BK244.out 0
                            have hfz26_1 := blk_frozen BK244.out 1
                            have hfz26_2 := blk_frozen BK244.out 2
                            have hfz26_3 := blk_frozen BK244.out 3
                            go_wp2_with (first | (go_at_call 63; (with_reducible refine (kauditref37_word.calls k1 ((rd_T47 l0 x10_1).f3) t246 _ A25.out).mono ?_); rintro e w' ⟨rfl, ⟨nd, rfl⟩⟩))
                            go_meet
                            case rel => exact ⟨_, (!t246), (by first | rfl | (simp; done) | (simp [*]; done)), H', ⟨by have := HK1.out; first | omega | exact Nat.le_refl _⟩, ⟨by (with_reducible repeat (first | refine blk_drewN ?_ _ | refine blk_drew ?_ | refine blk_alloc ?_ _)); refine blk_put (cs := #[.int .i64 ((rd_T47 l0 x10_1).f0), .int .i64 ((rd_T47 l0 x10_1).f1), .int .i64 ((rd_T47 l0 x10_1).f2), .string (⟨#[]⟩ : ByteArray)]) ?_ 3 _ rfl; (with_reducible repeat (first | refine blk_drewN ?_ _ | refine blk_drew ?_ | refine blk_alloc ?_ _)); refine blk_put (cs := #[.int .i64 ((rd_T47 l0 x10_1).f0), .int .i64 ((rd_T47 l0 x10_1).f1), .int .i64 0, .string (⟨#[]⟩ : ByteArray)]) ?_ 2 _ rfl; (with_reducible repeat (first | refine blk_drewN ?_ _ | refine blk_drew ?_ | refine blk_alloc ?_ _)); refine blk_put (cs := #[.int .i64 ((rd_T47 l0 x10_1).f0), .int .i64 0, .int .i64 0, .string (⟨#[]⟩ : ByteArray)]) ?_ 1 _ rfl; (with_reducible repeat (first | refine blk_drewN ?_ _ | refine blk_drew ?_ | refine blk_alloc ?_ _)); refine blk_put (cs := #[.int .i64 0, .int .i64 0, .int .i64 0, .string (⟨#[]⟩ : ByteArray)]) ?_ 0 _ rfl; (with_reducible repeat (first | refine blk_drewN ?_ _ | refine blk_drew ?_ | refine blk_alloc ?_ _)); exact BK244.out⟩, ⟨by repeat (first | (with_reducible first | exact HB.out | apply below_alloc | apply pw_below_drewN | apply below_drew1 | refine below_set ?_ GE244.out) | exact HB.out)⟩⟩
                      · rw [if_neg c20] at H
                        have c20b0 : (((rd_T47 l0 x10_1).f1) == 2) = false := beq_eq_false_iff_ne.mpr c20
                        have c20b1 : (((rd_T47 l0 x10_1).f1) != 2) = true := bne_iff_ne.mpr c20
                        have H' := Aside0.mk H
                        clear H
                        have hcz27_0 : w7.cell? ⟨gb244, 0, none⟩ = some (.int .i64 0) := (blk_cell BK244.out 0).trans rfl
                        have hcz27_1 : w7.cell? ⟨gb244, 1, none⟩ = some (.int .i64 0) := (blk_cell BK244.out 1).trans rfl
                        have hcz27_2 : w7.cell? ⟨gb244, 2, none⟩ = some (.int .i64 0) := (blk_cell BK244.out 2).trans rfl
                        have hcz27_3 : w7.cell? ⟨gb244, 3, none⟩ = some (.string (⟨#[]⟩ : ByteArray)) := (blk_cell BK244.out 3).trans rfl
                        have hfz27_0 := blk_frozen BK244.out 0
                        have hfz27_1 := blk_frozen BK244.out 1
                        have hfz27_2 := blk_frozen BK244.out 2
                        have hfz27_3 := blk_frozen BK244.out 3
                        go_wp2
                        go_meet
                        case rel => exact ⟨_, (true), (by first | rfl | (simp; done) | (simp [*]; done)), H', ⟨by have := HK1.out; first | omega | exact Nat.le_refl _⟩, ⟨by (with_reducible repeat (first | refine blk_drewN ?_ _ | refine blk_drew ?_ | refine blk_alloc ?_ _)); refine blk_put (cs := #[.int .i64 ((rd_T47 l0 x10_1).f0), .int .i64 ((rd_T47 l0 x10_1).f1), .int .i64 ((rd_T47 l0 x10_1).f2), .string (⟨#[]⟩ : ByteArray)]) ?_ 3 _ rfl; (with_reducible repeat (first | refine blk_drewN ?_ _ | refine blk_drew ?_ | refine blk_alloc ?_ _)); refine blk_put (cs := #[.int .i64 ((rd_T47 l0 x10_1).f0), .int .i64 ((rd_T47 l0 x10_1).f1), .int .i64 0, .string (⟨#[]⟩ : ByteArray)]) ?_ 2 _ rfl; (with_reducible repeat (first | refine blk_drewN ?_ _ | refine blk_drew ?_ | refine blk_alloc ?_ _)); refine blk_put (cs := #[.int .i64 ((rd_T47 l0 x10_1).f0), .int .i64 0, .int .i64 0, .string (⟨#[]⟩ : ByteArray)]) ?_ 1 _ rfl; (with_reducible repeat (first | refine blk_drewN ?_ _ | refine blk_drew ?_ | refine blk_alloc ?_ _)); refine blk_put (cs := #[.int .i64 0, .int .i64 0, .int .i64 0, .string (⟨#[]⟩ : ByteArray)]) ?_ 0 _ rfl; (with_reducible repeat (first | refine blk_drewN ?_ _ | refine blk_drew ?_ | refine blk_alloc ?_ _)); exact BK244.out⟩, ⟨by repeat (first | (with_reducible first | exact HB.out | apply below_alloc | apply pw_below_drewN | apply below_drew1 | refine below_set ?_ GE244.out) | exact HB.out)⟩⟩
              case rest =>
                clear HC6
                try clear c1
                try clear c2
                try clear c2b0
                try clear c2b1
                try clear p2
                try clear q2
                try clear hx2
                try clear c3
                try clear c3b0
                try clear c4
                try clear c4b0
                try clear c5
                try clear c5b0
                try clear c9
                try clear c9b0
                try clear c11
                try clear c11b0
                try clear c13
                try clear c13b0
                try clear c13b1
                try clear c14
                try clear c14b0
                try clear c16
                try clear c16b0
                try clear c17
                try clear c20
                try clear c20b0
                try clear c20b1
                try clear c21
                try clear c21b0
                try clear c23
                try clear c23b0
                try clear p24
                try clear q24
                try clear hx24
                try clear hcz10_0
                try clear hcz10_1
                try clear hcz10_2
                try clear hcz10_3
                try clear hcz12_0
                try clear hcz12_1
                try clear hcz12_2
                try clear hcz12_3
                try clear hcz15_0
                try clear hcz15_1
                try clear hcz15_2
                try clear hcz15_3
                try clear hcz17_0
                try clear hcz17_1
                try clear hcz17_2
                try clear hcz17_3
                try clear hcz19_0
                try clear hcz19_1
                try clear hcz19_2
                try clear hcz19_3
                try clear hcz22_0
                try clear hcz22_1
                try clear hcz22_2
                try clear hcz22_3
                try clear hcz24_0
                try clear hcz24_1
                try clear hcz24_2
                try clear hcz24_3
                try clear hcz26_0
                try clear hcz26_1
                try clear hcz26_2
                try clear hcz26_3
                try clear hcz27_0
                try clear hcz27_1
                try clear hcz27_2
                try clear hcz27_3
                try clear hcz8_0
                try clear hcz8_1
                try clear hcz8_2
                try clear hcz8_3
                try clear hfz10_0
                try clear hfz10_1
                try clear hfz10_2
                try clear hfz10_3
                try clear hfz12_0
                try clear hfz12_1
                try clear hfz12_2
                try clear hfz12_3
                try clear hfz15_0
                try clear hfz15_1
                try clear hfz15_2
                try clear hfz15_3
                try clear hfz17_0
                try clear hfz17_1
                try clear hfz17_2
                try clear hfz17_3
                try clear hfz19_0
                try clear hfz19_1
                try clear hfz19_2
                try clear hfz19_3
                try clear hfz22_0
                try clear hfz22_1
                try clear hfz22_2
                try clear hfz22_3
                try clear hfz24_0
                try clear hfz24_1
                try clear hfz24_2
                try clear hfz24_3
                try clear hfz26_0
                try clear hfz26_1
                try clear hfz26_2
                try clear hfz26_3
                try clear hfz27_0
                try clear hfz27_1
                try clear hfz27_2
                try clear hfz27_3
                try clear hfz8_0
                try clear hfz8_1
                try clear hfz8_2
                try clear hfz8_3
                try clear hx243_0
                try clear hx243_1
                try clear hx243_2
                try clear hx243_3
                try clear p2
                try clear p243
                try clear q243
                obtain ⟨kq, x48_5, rfl, HA, HJ5, BK244, HB⟩ := hcut
                cases kq with
                | zero => exact absurd HA.out (by simp [kauditref37_NamesCheck.j1])
                | succ kj5 =>
                  have H := HA.out
                  clear HA
                  simp only [kauditref37_NamesCheck.j1] at H
                  by_cases c28 : x48_5 = true
                  · subst c28
                    have H1 : (some 371) = some r := by rw [if_pos rfl] at H; exact H
                    clear H
                    have H := H1
                    clear H1
                    obtain rfl := Option.some.inj H
                    go_wp2
                    go_ret
                    exact ⟨by first | rfl | (simp [errW_none, errW_some] <;> rfl) | (simp [*, errW_none, errW_some] <;> rfl) | (simp only [isEmpty_ne_, isEmpty_eq_]; rfl) | (simp [*, isEmpty_ne_, isEmpty_eq_]; done), by repeat (first | (with_reducible first | exact HB.out | apply below_alloc | apply pw_below_drewN | apply below_drew1 | refine below_set ?_ GE244.out) | exact HB.out)⟩
                  · replace c28 := Bool.eq_false_iff.mpr c28
                    subst c28
                    have H1 : (if x10_1 > 0 then (if 0 ≤ (wrap64 (x10_1 - 1)) then (if (wrap64 (x10_1 - 1)) < (l0.length : Int) then ((kauditref37_compare.f ((rd_T47 l0 (wrap64 (x10_1 - 1))).f0) ((rd_T47 l0 (wrap64 (x10_1 - 1))).f1) ((rd_T47 l0 (wrap64 (x10_1 - 1))).f2) ((rd_T47 l0 (wrap64 (x10_1 - 1))).f3) ((rd_T47 l0 x10_1).f0) ((rd_T47 l0 x10_1).f1) ((rd_T47 l0 x10_1).f2) ((rd_T47 l0 x10_1).f3)).bind fun t248 => (if t248 ≥ 0 then (some 372) else (kauditref37_NamesCheck.l0 kj5 l0 l0 (l0.length : Int) (wrap64 (x10_1 + 1))))) else (none)) else (none)) else (kauditref37_NamesCheck.l0 kj5 l0 l0 (l0.length : Int) (wrap64 (x10_1 + 1)))) = some r := by rw [if_neg (show ¬ (false = true) by decide)] at H; exact H
                    clear H
                    have H := H1
                    clear H1
                    by_cases c29 : x10_1 > 0
                    · rw [if_pos c29] at H
                      have c29b0 : decide (0 < x10_1) = true := decide_eq_true c29
                      clear c29
                      obtain ⟨ji30, hji30⟩ : ∃ j_ : Int, (wrap64 (x10_1 - 1)) = j_ := ⟨_, rfl⟩
                      replace H : (if 0 ≤ (ji30) then (if (ji30) < (l0.length : Int) then ((kauditref37_compare.f ((rd_T47 l0 (ji30)).f0) ((rd_T47 l0 (ji30)).f1) ((rd_T47 l0 (ji30)).f2) ((rd_T47 l0 (ji30)).f3) ((rd_T47 l0 x10_1).f0) ((rd_T47 l0 x10_1).f1) ((rd_T47 l0 x10_1).f2) ((rd_T47 l0 x10_1).f3)).bind fun t248 => (if t248 ≥ 0 then (some 372) else (kauditref37_NamesCheck.l0 kj5 l0 l0 (l0.length : Int) (wrap64 (x10_1 + 1))))) else (none)) else (none)) = some r := by first | (rw [hji30] at H; exact H) | (simp only [hji30] at H ⊢; exact H)
                      have hji30w : (IntKind.i64.wrap (x10_1 - 1)) = ji30 := (i64_w _).trans hji30
                      by_cases c31 : 0 ≤ (ji30)
                      · rw [if_pos c31] at H
                        have c31b0 : decide (0 ≤ (ji30)) = true := decide_eq_true c31
                        clear c31
                        by_cases c32 : (ji30) < (l0.length : Int)
                        · rw [if_pos c32] at H
                          have c32b0 : decide ((ji30) < (l0.length : Int)) = true := decide_eq_true c32
                          clear c32
                          replace H := Option.bind_eq_some_iff.mp H
                          obtain ⟨t248, A330, H⟩ := H
                          replace H : (if t248 ≥ 0 then (some 372) else (kauditref37_NamesCheck.l0 kj5 l0 l0 (l0.length : Int) (wrap64 (x10_1 + 1)))) = some r := H
                          have A33 := Aside0.mk A330
                          clear A330
                          by_cases c34 : t248 ≥ 0
                          · rw [if_pos c34] at H
                            have c34b0 : decide (0 ≤ t248) = true := decide_eq_true c34
                            clear c34
                            obtain rfl := Option.some.inj H
                            try go_wp2
                            have n0_ := Aside0.mk (blk_drew BK244.out)
                            have n1_ := Aside0.mk (below_drew1 HB.out)
                            clear BK244
                            clear HB
                            have BK244 := n0_
                            have HB := n1_
                            clear n0_ n1_
                            have p247 : 0 ≤ ((ji30) : Int) := of_decide_eq_true (by first | (with_reducible assumption) | assumption)
                            have q247 : (ji30) < (l0.length : Int) := of_decide_eq_true (by first | (with_reducible assumption) | assumption)
                            obtain ⟨ad247, e247, hx247_0, hx247_1, hx247_2, hx247_3⟩ := at_T47 HR0.out (ji30) p247 q247
                            have hw247_3 := hx247_3
                            have hw247_2 := hx247_2
                            have hw247_1 := hx247_1
                            have hw247_0 := hx247_0
                            obtain rfl : ad243 = ad247 := (by injection e247)
                            replace hx247_0 := (HB.out.cell (World.block_lt_of_cell? w _ hx247_0)).trans hx247_0
                            replace hx247_1 := (HB.out.cell (World.block_lt_of_cell? w _ hx247_1)).trans hx247_1
                            replace hx247_2 := (HB.out.cell (World.block_lt_of_cell? w _ hx247_2)).trans hx247_2
                            replace hx247_3 := (HB.out.cell (World.block_lt_of_cell? w _ hx247_3)).trans hx247_3
                            replace p247 := eq_true p247
                            replace q247 := eq_true q247
                            refine start_ (n := 12) (S := fun w' => w'.cell? ⟨gb244, 0, none⟩ = some (.int .i64 ((rd_T47 l0 x10_1).f0)) ∧ w'.cell? ⟨gb244, 1, none⟩ = some (.int .i64 ((rd_T47 l0 x10_1).f1)) ∧ w'.cell? ⟨gb244, 2, none⟩ = some (.int .i64 ((rd_T47 l0 x10_1).f2)) ∧ w'.cell? ⟨gb244, 3, none⟩ = some (.string ((rd_T47 l0 x10_1).f3)) ∧ w'.cell? (ad243.add (((ji30)).toNat * 4)) = some (.int .i64 ((rd_T47 l0 (ji30)).f0)) ∧ w'.cell? ⟨(ad243.add (((ji30)).toNat * 4)).block, (ad243.add (((ji30)).toNat * 4)).off + 1, none⟩ = some (.int .i64 ((rd_T47 l0 (ji30)).f1)) ∧ w'.cell? ⟨(ad243.add (((ji30)).toNat * 4)).block, (ad243.add (((ji30)).toNat * 4)).off + 2, none⟩ = some (.int .i64 ((rd_T47 l0 (ji30)).f2)) ∧ w'.cell? ⟨(ad243.add (((ji30)).toNat * 4)).block, (ad243.add (((ji30)).toNat * 4)).off + 3, none⟩ = some (.string ((rd_T47 l0 (ji30)).f3))) (ds := []) #[false, false, false, false, false, false, false, false, false, false, false, false] (by kernel_rfl) rfl rfl ⟨(blk_cell BK244.out 0).trans rfl, (blk_cell BK244.out 1).trans rfl, (blk_cell BK244.out 2).trans rfl, (blk_cell BK244.out 3).trans rfl, ((HB.out.cell (World.block_lt_of_cell? w _ hw247_0)).trans hw247_0), ((HB.out.cell (World.block_lt_of_cell? w _ hw247_1)).trans hw247_1), ((HB.out.cell (World.block_lt_of_cell? w _ hw247_2)).trans hw247_2), ((HB.out.cell (World.block_lt_of_cell? w _ hw247_3)).trans hw247_3)⟩ (fun hHeld => ?_); refine with_tabW kauditref37_NamesCheck.tab8 kauditref37_NamesCheck.bits8 (fun HT_ HW_ => ?_)
                            generalize wc.drew = w35 at BK244 HB hx247_0 hx247_1 hx247_2 hx247_3 hHeld ⊢
                            refine pure_ (i := 0) (N := some 49) (v := ?_) (a' := ?_) #[true, false, false, false, false, false, false, false, false, false, false, false] rfl rfl (any_of HT_.out (by kernel_rfl)) (fun _ _ _ h => h) (Or.inl ⟨by rfl, ?_⟩) ?_ ?_
                            rotate_left
                            · intro w'
                              go_simp
                              with_reducible rfl
                            rotate_left
                            · simp only [Act.put, List.setIfInBounds_toArray, List.set_cons_zero, List.set_cons_succ, i64_w, i32_w]
                              rfl
                            refine pure_ (i := 1) (N := some 50) (v := ?_) (a' := ?_) #[true, true, false, false, false, false, false, false, false, false, false, false] rfl rfl (any_of HT_.out (by kernel_rfl)) (fun _ _ _ h => h) (Or.inl ⟨by rfl, ?_⟩) ?_ ?_
                            rotate_left
                            · intro w'
                              go_simp
                              with_reducible rfl
                            rotate_left
                            · simp only [Act.put, List.setIfInBounds_toArray, List.set_cons_zero, List.set_cons_succ, i64_w, i32_w]
                              rfl
                            refine pure_ (i := 2) (N := some 51) (v := ?_) (a' := ?_) #[true, true, true, false, false, false, false, false, false, false, false, false] rfl rfl (any_of HT_.out (by kernel_rfl)) (fun _ _ _ h => h) (Or.inl ⟨by rfl, ?_⟩) ?_ ?_
                            rotate_left
                            · intro w'
                              go_simp
                              with_reducible rfl
                            rotate_left
                            · simp only [Act.put, List.setIfInBounds_toArray, List.set_cons_zero, List.set_cons_succ, i64_w, i32_w]
                              rfl
                            refine pure_ (i := 3) (N := some 52) (v := ?_) (a' := ?_) #[true, true, true, true, false, false, false, false, false, false, false, false] rfl rfl (any_of HT_.out (by kernel_rfl)) (fun _ _ _ h => h) (Or.inl ⟨by rfl, ?_⟩) ?_ ?_
                            rotate_left
                            · intro w'
                              go_simp
                              with_reducible rfl
                            rotate_left
                            · simp only [Act.put, List.setIfInBounds_toArray, List.set_cons_zero, List.set_cons_succ, i64_w, i32_w]
                              rfl
                            refine pure_ (i := 4) (N := some 53) (v := ?_) (a' := ?_) #[true, true, true, true, true, false, false, false, false, false, false, false] rfl rfl (any_of HT_.out (by kernel_rfl)) (fun _ _ _ h => h) (Or.inl ⟨by rfl, ?_⟩) ?_ ?_
                            rotate_left
                            · intro w'
                              go_simp
                              with_reducible rfl
                            rotate_left
                            · simp only [Act.put, List.setIfInBounds_toArray, List.set_cons_zero, List.set_cons_succ, i64_w, i32_w]
                              rfl
                            refine pure_ (i := 5) (N := some 54) (v := ?_) (a' := ?_) #[true, true, true, true, true, true, false, false, false, false, false, false] rfl rfl (any_of HT_.out (by kernel_rfl)) (fun _ _ _ h => h) (Or.inl ⟨by rfl, ?_⟩) ?_ ?_
                            rotate_left
                            · intro w'
                              go_simp
                              with_reducible rfl
                            rotate_left
                            · simp only [Act.put, List.setIfInBounds_toArray, List.set_cons_zero, List.set_cons_succ, i64_w, i32_w]
                              rfl
                            refine pure_ (i := 6) (N := some 55) (v := ?_) (a' := ?_) #[true, true, true, true, true, true, true, false, false, false, false, false] rfl rfl (any_of HT_.out (by kernel_rfl)) (fun _ _ _ h => h) (Or.inl ⟨by rfl, ?_⟩) ?_ ?_
                            rotate_left
                            · intro w'
                              go_simp
                              with_reducible rfl
                            rotate_left
                            · simp only [Act.put, List.setIfInBounds_toArray, List.set_cons_zero, List.set_cons_succ, i64_w, i32_w]
                              rfl
                            refine take_ (i := 7) (N := some 56) (v := ?_) (a' := ?_) #[true, true, true, true, true, true, true, true, false, false, false, false] rfl rfl (take_ofW HT_.out HW_.out (by kernel_rfl)) (fun _ _ _ h => h) (Or.inl ⟨by rfl, ?_⟩) hHeld ?_ ?_
                            rotate_left
                            · rintro w' ⟨s0, s1, s2, s3, s4, s5, s6, s7⟩
                              go_simp
                              with_reducible rfl
                            rotate_left
                            · simp only [Act.put, List.setIfInBounds_toArray, List.set_cons_zero, List.set_cons_succ, i64_w, i32_w]
                              rfl
                            refine take_ (i := 8) (N := some 57) (v := ?_) (a' := ?_) #[true, true, true, true, true, true, true, true, true, false, false, false] rfl rfl (take_ofW HT_.out HW_.out (by kernel_rfl)) (fun _ _ _ h => h) (Or.inl ⟨by rfl, ?_⟩) hHeld ?_ ?_
                            rotate_left
                            · rintro w' ⟨s0, s1, s2, s3, s4, s5, s6, s7⟩
                              go_simp
                              with_reducible rfl
                            rotate_left
                            · simp only [Act.put, List.setIfInBounds_toArray, List.set_cons_zero, List.set_cons_succ, i64_w, i32_w]
                              rfl
                            refine one_ (i := 9) (N := some 58) #[true, true, true, true, true, true, true, true, true, true, false, false] rfl rfl (one_of HT_.out (by kernel_rfl)) (by decide) (fun K hK => ?_)
                            refine goes_ Tryd.func64 (by kernel_rfl) rfl #[.agg #[.int .i64 ((rd_T47 l0 (ji30)).f0), .int .i64 ((rd_T47 l0 (ji30)).f1), .int .i64 ((rd_T47 l0 (ji30)).f2), .string ((rd_T47 l0 (ji30)).f3)], .agg #[.int .i64 ((rd_T47 l0 x10_1).f0), .int .i64 ((rd_T47 l0 x10_1).f1), .int .i64 ((rd_T47 l0 x10_1).f2), .string ((rd_T47 l0 x10_1).f3)]] (by rfl) rfl rfl (by (try simp only [List.map_toArray, List.map_cons, List.map_nil]); first | done | (simp only [hji30]; rfl) | rfl | (simp only [List.length_drop, List.length_take]; rfl)) ?_
                            with_reducible refine (kauditref37_compare.calls ((rd_T47 l0 (ji30)).f0) ((rd_T47 l0 (ji30)).f1) ((rd_T47 l0 (ji30)).f2) ((rd_T47 l0 (ji30)).f3) ((rd_T47 l0 x10_1).f0) ((rd_T47 l0 x10_1).f1) ((rd_T47 l0 x10_1).f2) ((rd_T47 l0 x10_1).f3) t248 _ A33.out).mono ?_
                            rintro e w36 ⟨rfl, hb⟩
                            refine ⟨_, rfl, ?_⟩
                            have n0_ := Aside0.mk (blk_below (g := gb244) (o := .cells #[.int .i64 ((rd_T47 l0 x10_1).f0), .int .i64 ((rd_T47 l0 x10_1).f1), .int .i64 ((rd_T47 l0 x10_1).f2), .string ((rd_T47 l0 x10_1).f3)] 47 (0, 0)) (by (with_reducible repeat (first | refine blk_drewN ?_ _ | refine blk_drew ?_ | refine blk_alloc ?_ _)); exact BK244.out) hb)
                            have n1_ := Aside0.mk (below_step (by repeat (first | (with_reducible first | exact HB.out | apply below_alloc | apply pw_below_drewN | apply below_drew1 | refine below_set ?_ GE244.out) | exact HB.out)) hb)
                            clear BK244
                            clear HB
                            have BK244 := n0_
                            have HB := n1_
                            clear n0_ n1_
                            (try clear hb)
                            (try clear hb2)
                            (try clear hk)
                            (try clear hi)
                            refine hK.out _ _ ⟨(blk_cell BK244.out 0).trans rfl, (blk_cell BK244.out 1).trans rfl, (blk_cell BK244.out 2).trans rfl, (blk_cell BK244.out 3).trans rfl, ((HB.out.cell (World.block_lt_of_cell? w _ hw247_0)).trans hw247_0), ((HB.out.cell (World.block_lt_of_cell? w _ hw247_1)).trans hw247_1), ((HB.out.cell (World.block_lt_of_cell? w _ hw247_2)).trans hw247_2), ((HB.out.cell (World.block_lt_of_cell? w _ hw247_3)).trans hw247_3)⟩ (fun hHeld => ?_)
                            clear hK K
                            refine norm_ (a' := ?_) ?_ ?_
                            rotate_left
                            · show Act.put _ (some 58) _ = _
                              simp only [Act.put, List.setIfInBounds_toArray, List.set_cons_zero, List.set_cons_succ, i64_w, i32_w]
                              rfl
                            refine pure_ (i := 10) (N := some 59) (v := ?_) (a' := ?_) #[true, true, true, true, true, true, true, true, true, true, true, false] rfl rfl (any_of HT_.out (by kernel_rfl)) (fun _ _ _ h => h) (Or.inl ⟨by rfl, ?_⟩) ?_ ?_
                            rotate_left
                            · intro w'
                              go_simp
                              with_reducible rfl
                            rotate_left
                            · simp only [Act.put, List.setIfInBounds_toArray, List.set_cons_zero, List.set_cons_succ, i64_w, i32_w]
                              rfl
                            refine pure_ (i := 11) (N := some 60) (v := ?_) (a' := ?_) #[true, true, true, true, true, true, true, true, true, true, true, true] rfl rfl (any_of HT_.out (by kernel_rfl)) (fun _ _ _ h => h) (Or.inl ⟨by rfl, ?_⟩) ?_ ?_
                            rotate_left
                            · intro w'
                              go_simp
                              with_reducible rfl
                            rotate_left
                            · simp only [Act.put, List.setIfInBounds_toArray, List.set_cons_zero, List.set_cons_succ, i64_w, i32_w]
                              rfl
                            refine done_ (done_of HT_.out (by kernel_rfl)) ?_
                            try go_wp2
                            go_ret
                            exact ⟨by first | rfl | (simp [errW_none, errW_some] <;> rfl) | (simp only [← hji30]; first | rfl | (simp [errW_none, errW_some] <;> rfl)) | (simp [*, errW_none, errW_some] <;> rfl) | (simp only [isEmpty_ne_, isEmpty_eq_]; rfl) | (simp [*, isEmpty_ne_, isEmpty_eq_]; done), by repeat (first | (with_reducible first | exact HB.out | apply below_alloc | apply pw_below_drewN | apply below_drew1 | refine below_set ?_ GE244.out) | exact HB.out)⟩
                          · rw [if_neg c34] at H
                            have c34b0 : decide (0 ≤ t248) = false := decide_eq_false c34
                            clear c34
                            have H' := Aside0.mk H
                            clear H
                            try go_wp2
                            have n0_ := Aside0.mk (blk_drew BK244.out)
                            have n1_ := Aside0.mk (below_drew1 HB.out)
                            clear BK244
                            clear HB
                            have BK244 := n0_
                            have HB := n1_
                            clear n0_ n1_
                            have p247 : 0 ≤ ((ji30) : Int) := of_decide_eq_true (by first | (with_reducible assumption) | assumption)
                            have q247 : (ji30) < (l0.length : Int) := of_decide_eq_true (by first | (with_reducible assumption) | assumption)
                            obtain ⟨ad247, e247, hx247_0, hx247_1, hx247_2, hx247_3⟩ := at_T47 HR0.out (ji30) p247 q247
                            have hw247_3 := hx247_3
                            have hw247_2 := hx247_2
                            have hw247_1 := hx247_1
                            have hw247_0 := hx247_0
                            obtain rfl : ad243 = ad247 := (by injection e247)
                            replace hx247_0 := (HB.out.cell (World.block_lt_of_cell? w _ hx247_0)).trans hx247_0
                            replace hx247_1 := (HB.out.cell (World.block_lt_of_cell? w _ hx247_1)).trans hx247_1
                            replace hx247_2 := (HB.out.cell (World.block_lt_of_cell? w _ hx247_2)).trans hx247_2
                            replace hx247_3 := (HB.out.cell (World.block_lt_of_cell? w _ hx247_3)).trans hx247_3
                            replace p247 := eq_true p247
                            replace q247 := eq_true q247
                            refine start_ (n := 12) (S := fun w' => w'.cell? ⟨gb244, 0, none⟩ = some (.int .i64 ((rd_T47 l0 x10_1).f0)) ∧ w'.cell? ⟨gb244, 1, none⟩ = some (.int .i64 ((rd_T47 l0 x10_1).f1)) ∧ w'.cell? ⟨gb244, 2, none⟩ = some (.int .i64 ((rd_T47 l0 x10_1).f2)) ∧ w'.cell? ⟨gb244, 3, none⟩ = some (.string ((rd_T47 l0 x10_1).f3)) ∧ w'.cell? (ad243.add (((ji30)).toNat * 4)) = some (.int .i64 ((rd_T47 l0 (ji30)).f0)) ∧ w'.cell? ⟨(ad243.add (((ji30)).toNat * 4)).block, (ad243.add (((ji30)).toNat * 4)).off + 1, none⟩ = some (.int .i64 ((rd_T47 l0 (ji30)).f1)) ∧ w'.cell? ⟨(ad243.add (((ji30)).toNat * 4)).block, (ad243.add (((ji30)).toNat * 4)).off + 2, none⟩ = some (.int .i64 ((rd_T47 l0 (ji30)).f2)) ∧ w'.cell? ⟨(ad243.add (((ji30)).toNat * 4)).block, (ad243.add (((ji30)).toNat * 4)).off + 3, none⟩ = some (.string ((rd_T47 l0 (ji30)).f3))) (ds := []) #[false, false, false, false, false, false, false, false, false, false, false, false] (by kernel_rfl) rfl rfl ⟨(blk_cell BK244.out 0).trans rfl, (blk_cell BK244.out 1).trans rfl, (blk_cell BK244.out 2).trans rfl, (blk_cell BK244.out 3).trans rfl, ((HB.out.cell (World.block_lt_of_cell? w _ hw247_0)).trans hw247_0), ((HB.out.cell (World.block_lt_of_cell? w _ hw247_1)).trans hw247_1), ((HB.out.cell (World.block_lt_of_cell? w _ hw247_2)).trans hw247_2), ((HB.out.cell (World.block_lt_of_cell? w _ hw247_3)).trans hw247_3)⟩ (fun hHeld => ?_); refine with_tabW kauditref37_NamesCheck.tab8 kauditref37_NamesCheck.bits8 (fun HT_ HW_ => ?_)
                            generalize wc.drew = w37 at BK244 HB hx247_0 hx247_1 hx247_2 hx247_3 hHeld ⊢
                            refine pure_ (i := 0) (N := some 49) (v := ?_) (a' := ?_) #[true, false, false, false, false, false, false, false, false, false, false, false] rfl rfl (any_of HT_.out (by kernel_rfl)) (fun _ _ _ h => h) (Or.inl ⟨by rfl, ?_⟩) ?_ ?_
                            rotate_left
                            · intro w'
                              go_simp
                              with_reducible rfl
                            rotate_left
                            · simp only [Act.put, List.setIfInBounds_toArray, List.set_cons_zero, List.set_cons_succ, i64_w, i32_w]
                              rfl
                            refine pure_ (i := 1) (N := some 50) (v := ?_) (a' := ?_) #[true, true, false, false, false, false, false, false, false, false, false, false] rfl rfl (any_of HT_.out (by kernel_rfl)) (fun _ _ _ h => h) (Or.inl ⟨by rfl, ?_⟩) ?_ ?_
                            rotate_left
                            · intro w'
                              go_simp
                              with_reducible rfl
                            rotate_left
                            · simp only [Act.put, List.setIfInBounds_toArray, List.set_cons_zero, List.set_cons_succ, i64_w, i32_w]
                              rfl
                            refine pure_ (i := 2) (N := some 51) (v := ?_) (a' := ?_) #[true, true, true, false, false, false, false, false, false, false, false, false] rfl rfl (any_of HT_.out (by kernel_rfl)) (fun _ _ _ h => h) (Or.inl ⟨by rfl, ?_⟩) ?_ ?_
                            rotate_left
                            · intro w'
                              go_simp
                              with_reducible rfl
                            rotate_left
                            · simp only [Act.put, List.setIfInBounds_toArray, List.set_cons_zero, List.set_cons_succ, i64_w, i32_w]
                              rfl
                            refine pure_ (i := 3) (N := some 52) (v := ?_) (a' := ?_) #[true, true, true, true, false, false, false, false, false, false, false, false] rfl rfl (any_of HT_.out (by kernel_rfl)) (fun _ _ _ h => h) (Or.inl ⟨by rfl, ?_⟩) ?_ ?_
                            rotate_left
                            · intro w'
                              go_simp
                              with_reducible rfl
                            rotate_left
                            · simp only [Act.put, List.setIfInBounds_toArray, List.set_cons_zero, List.set_cons_succ, i64_w, i32_w]
                              rfl
                            refine pure_ (i := 4) (N := some 53) (v := ?_) (a' := ?_) #[true, true, true, true, true, false, false, false, false, false, false, false] rfl rfl (any_of HT_.out (by kernel_rfl)) (fun _ _ _ h => h) (Or.inl ⟨by rfl, ?_⟩) ?_ ?_
                            rotate_left
                            · intro w'
                              go_simp
                              with_reducible rfl
                            rotate_left
                            · simp only [Act.put, List.setIfInBounds_toArray, List.set_cons_zero, List.set_cons_succ, i64_w, i32_w]
                              rfl
                            refine pure_ (i := 5) (N := some 54) (v := ?_) (a' := ?_) #[true, true, true, true, true, true, false, false, false, false, false, false] rfl rfl (any_of HT_.out (by kernel_rfl)) (fun _ _ _ h => h) (Or.inl ⟨by rfl, ?_⟩) ?_ ?_
                            rotate_left
                            · intro w'
                              go_simp
                              with_reducible rfl
                            rotate_left
                            · simp only [Act.put, List.setIfInBounds_toArray, List.set_cons_zero, List.set_cons_succ, i64_w, i32_w]
                              rfl
                            refine pure_ (i := 6) (N := some 55) (v := ?_) (a' := ?_) #[true, true, true, true, true, true, true, false, false, false, false, false] rfl rfl (any_of HT_.out (by kernel_rfl)) (fun _ _ _ h => h) (Or.inl ⟨by rfl, ?_⟩) ?_ ?_
                            rotate_left
                            · intro w'
                              go_simp
                              with_reducible rfl
                            rotate_left
                            · simp only [Act.put, List.setIfInBounds_toArray, List.set_cons_zero, List.set_cons_succ, i64_w, i32_w]
                              rfl
                            refine take_ (i := 7) (N := some 56) (v := ?_) (a' := ?_) #[true, true, true, true, true, true, true, true, false, false, false, false] rfl rfl (take_ofW HT_.out HW_.out (by kernel_rfl)) (fun _ _ _ h => h) (Or.inl ⟨by rfl, ?_⟩) hHeld ?_ ?_
                            rotate_left
                            · rintro w' ⟨s0, s1, s2, s3, s4, s5, s6, s7⟩
                              go_simp
                              with_reducible rfl
                            rotate_left
                            · simp only [Act.put, List.setIfInBounds_toArray, List.set_cons_zero, List.set_cons_succ, i64_w, i32_w]
                              rfl
                            refine take_ (i := 8) (N := some 57) (v := ?_) (a' := ?_) #[true, true, true, true, true, true, true, true, true, false, false, false] rfl rfl (take_ofW HT_.out HW_.out (by kernel_rfl)) (fun _ _ _ h => h) (Or.inl ⟨by rfl, ?_⟩) hHeld ?_ ?_
                            rotate_left
                            · rintro w' ⟨s0, s1, s2, s3, s4, s5, s6, s7⟩
                              go_simp
                              with_reducible rfl
                            rotate_left
                            · simp only [Act.put, List.setIfInBounds_toArray, List.set_cons_zero, List.set_cons_succ, i64_w, i32_w]
                              rfl
                            refine one_ (i := 9) (N := some 58) #[true, true, true, true, true, true, true, true, true, true, false, false] rfl rfl (one_of HT_.out (by kernel_rfl)) (by decide) (fun K hK => ?_)
                            refine goes_ Tryd.func64 (by kernel_rfl) rfl #[.agg #[.int .i64 ((rd_T47 l0 (ji30)).f0), .int .i64 ((rd_T47 l0 (ji30)).f1), .int .i64 ((rd_T47 l0 (ji30)).f2), .string ((rd_T47 l0 (ji30)).f3)], .agg #[.int .i64 ((rd_T47 l0 x10_1).f0), .int .i64 ((rd_T47 l0 x10_1).f1), .int .i64 ((rd_T47 l0 x10_1).f2), .string ((rd_T47 l0 x10_1).f3)]] (by rfl) rfl rfl (by (try simp only [List.map_toArray, List.map_cons, List.map_nil]); first | done | (simp only [hji30]; rfl) | rfl | (simp only [List.length_drop, List.length_take]; rfl)) ?_
                            with_reducible refine (kauditref37_compare.calls ((rd_T47 l0 (ji30)).f0) ((rd_T47 l0 (ji30)).f1) ((rd_T47 l0 (ji30)).f2) ((rd_T47 l0 (ji30)).f3) ((rd_T47 l0 x10_1).f0) ((rd_T47 l0 x10_1).f1) ((rd_T47 l0 x10_1).f2) ((rd_T47 l0 x10_1).f3) t248 _ A33.out).mono ?_
                            rintro e w38 ⟨rfl, hb⟩
                            refine ⟨_, rfl, ?_⟩
                            have n0_ := Aside0.mk (blk_below (g := gb244) (o := .cells #[.int .i64 ((rd_T47 l0 x10_1).f0), .int .i64 ((rd_T47 l0 x10_1).f1), .int .i64 ((rd_T47 l0 x10_1).f2), .string ((rd_T47 l0 x10_1).f3)] 47 (0, 0)) (by (with_reducible repeat (first | refine blk_drewN ?_ _ | refine blk_drew ?_ | refine blk_alloc ?_ _)); exact BK244.out) hb)
                            have n1_ := Aside0.mk (below_step (by repeat (first | (with_reducible first | exact HB.out | apply below_alloc | apply pw_below_drewN | apply below_drew1 | refine below_set ?_ GE244.out) | exact HB.out)) hb)
                            clear BK244
                            clear HB
                            have BK244 := n0_
                            have HB := n1_
                            clear n0_ n1_
                            (try clear hb)
                            (try clear hb2)
                            (try clear hk)
                            (try clear hi)
                            refine hK.out _ _ ⟨(blk_cell BK244.out 0).trans rfl, (blk_cell BK244.out 1).trans rfl, (blk_cell BK244.out 2).trans rfl, (blk_cell BK244.out 3).trans rfl, ((HB.out.cell (World.block_lt_of_cell? w _ hw247_0)).trans hw247_0), ((HB.out.cell (World.block_lt_of_cell? w _ hw247_1)).trans hw247_1), ((HB.out.cell (World.block_lt_of_cell? w _ hw247_2)).trans hw247_2), ((HB.out.cell (World.block_lt_of_cell? w _ hw247_3)).trans hw247_3)⟩ (fun hHeld => ?_)
                            clear hK K
                            refine norm_ (a' := ?_) ?_ ?_
                            rotate_left
                            · show Act.put _ (some 58) _ = _
                              simp only [Act.put, List.setIfInBounds_toArray, List.set_cons_zero, List.set_cons_succ, i64_w, i32_w]
                              rfl
                            refine pure_ (i := 10) (N := some 59) (v := ?_) (a' := ?_) #[true, true, true, true, true, true, true, true, true, true, true, false] rfl rfl (any_of HT_.out (by kernel_rfl)) (fun _ _ _ h => h) (Or.inl ⟨by rfl, ?_⟩) ?_ ?_
                            rotate_left
                            · intro w'
                              go_simp
                              with_reducible rfl
                            rotate_left
                            · simp only [Act.put, List.setIfInBounds_toArray, List.set_cons_zero, List.set_cons_succ, i64_w, i32_w]
                              rfl
                            refine pure_ (i := 11) (N := some 60) (v := ?_) (a' := ?_) #[true, true, true, true, true, true, true, true, true, true, true, true] rfl rfl (any_of HT_.out (by kernel_rfl)) (fun _ _ _ h => h) (Or.inl ⟨by rfl, ?_⟩) ?_ ?_
                            rotate_left
                            · intro w'
                              go_simp
                              with_reducible rfl
                            rotate_left
                            · simp only [Act.put, List.setIfInBounds_toArray, List.set_cons_zero, List.set_cons_succ, i64_w, i32_w]
                              rfl
                            refine done_ (done_of HT_.out (by kernel_rfl)) ?_
                            try go_wp2
                            go_roundg kj5
                            case measure => have := HK1.out; have := HJ5.out; omega
                            case rel => exact ⟨(wrap64 (x10_1 + 1)), (by first | rfl | (simp; done) | (simp [*]; done)), (by first | exact H' | ((try subst hji30); exact H')), ⟨by have := HK1.out; have := HJ5.out; omega⟩, ⟨by repeat (first | (with_reducible first | exact HB.out | apply below_alloc | apply pw_below_drewN | apply below_drew1 | refine below_set ?_ GE244.out) | exact HB.out)⟩⟩
                        · rw [if_neg c32] at H
                          exact absurd H (by simp)
                      · rw [if_neg c31] at H
                        exact absurd H (by simp)
                    · rw [if_neg c29] at H
                      have c29b0 : decide (0 < x10_1) = false := decide_eq_false c29
                      clear c29
                      have H' := Aside0.mk H
                      clear H
                      try go_wp2
                      have n0_ := Aside0.mk (blk_drew BK244.out)
                      have n1_ := Aside0.mk (below_drew1 HB.out)
                      clear BK244
                      clear HB
                      have BK244 := n0_
                      have HB := n1_
                      clear n0_ n1_
                      refine start_ (n := 12) (S := fun w' => True) (ds := []) #[false, false, false, false, false, false, false, false, false, false, false, false] (by kernel_rfl) rfl rfl trivial (fun hHeld => ?_); refine with_tabW kauditref37_NamesCheck.tab8 kauditref37_NamesCheck.bits8 (fun HT_ HW_ => ?_)
                      generalize wc.drew = w39 at BK244 HB hHeld ⊢
                      refine pure_ (i := 0) (N := some 49) (v := ?_) (a' := ?_) #[true, false, false, false, false, false, false, false, false, false, false, false] rfl rfl (any_of HT_.out (by kernel_rfl)) (fun _ _ _ h => h) (Or.inl ⟨by rfl, ?_⟩) ?_ ?_
                      rotate_left
                      · intro w'
                        go_simp
                        with_reducible rfl
                      rotate_left
                      · simp only [Act.put, List.setIfInBounds_toArray, List.set_cons_zero, List.set_cons_succ, i64_w, i32_w]
                        rfl
                      refine pure_ (i := 1) (N := some 50) (v := ?_) (a' := ?_) #[true, true, false, false, false, false, false, false, false, false, false, false] rfl rfl (any_of HT_.out (by kernel_rfl)) (fun _ _ _ h => h) (Or.inl ⟨by rfl, ?_⟩) ?_ ?_
                      rotate_left
                      · intro w'
                        go_simp
                        with_reducible rfl
                      rotate_left
                      · simp only [Act.put, List.setIfInBounds_toArray, List.set_cons_zero, List.set_cons_succ, i64_w, i32_w]
                        rfl
                      refine pure_ (i := 2) (N := some 51) (v := ?_) (a' := ?_) #[true, true, true, false, false, false, false, false, false, false, false, false] rfl rfl (any_of HT_.out (by kernel_rfl)) (fun _ _ _ h => h) (Or.inl ⟨by rfl, ?_⟩) ?_ ?_
                      rotate_left
                      · intro w'
                        go_simp
                        with_reducible rfl
                      rotate_left
                      · simp only [Act.put, List.setIfInBounds_toArray, List.set_cons_zero, List.set_cons_succ, i64_w, i32_w]
                        rfl
                      refine pure_ (i := 3) (N := some 52) (v := undef) (a' := ?_) #[true, true, true, true, false, false, false, false, false, false, false, false] rfl rfl (any_of HT_.out (by kernel_rfl)) (fun _ _ _ h => h) (Or.inr ⟨by rfl, rfl⟩) ?_ ?_
                      rotate_left
                      · simp only [Act.put, List.setIfInBounds_toArray, List.set_cons_zero, List.set_cons_succ, i64_w, i32_w]
                        rfl
                      refine pure_ (i := 4) (N := some 53) (v := undef) (a' := ?_) #[true, true, true, true, true, false, false, false, false, false, false, false] rfl rfl (any_of HT_.out (by kernel_rfl)) (fun _ _ _ h => h) (Or.inr ⟨by rfl, rfl⟩) ?_ ?_
                      rotate_left
                      · simp only [Act.put, List.setIfInBounds_toArray, List.set_cons_zero, List.set_cons_succ, i64_w, i32_w]
                        rfl
                      refine pure_ (i := 5) (N := some 54) (v := undef) (a' := ?_) #[true, true, true, true, true, true, false, false, false, false, false, false] rfl rfl (any_of HT_.out (by kernel_rfl)) (fun _ _ _ h => h) (Or.inr ⟨by rfl, rfl⟩) ?_ ?_
                      rotate_left
                      · simp only [Act.put, List.setIfInBounds_toArray, List.set_cons_zero, List.set_cons_succ, i64_w, i32_w]
                        rfl
                      refine pure_ (i := 6) (N := some 55) (v := undef) (a' := ?_) #[true, true, true, true, true, true, true, false, false, false, false, false] rfl rfl (any_of HT_.out (by kernel_rfl)) (fun _ _ _ h => h) (Or.inr ⟨by rfl, rfl⟩) ?_ ?_
                      rotate_left
                      · simp only [Act.put, List.setIfInBounds_toArray, List.set_cons_zero, List.set_cons_succ, i64_w, i32_w]
                        rfl
                      refine pure_ (i := 7) (N := some 56) (v := undef) (a' := ?_) #[true, true, true, true, true, true, true, true, false, false, false, false] rfl rfl (any_of HT_.out (by kernel_rfl)) (fun _ _ _ h => h) (Or.inr ⟨by rfl, rfl⟩) ?_ ?_
                      rotate_left
                      · simp only [Act.put, List.setIfInBounds_toArray, List.set_cons_zero, List.set_cons_succ, i64_w, i32_w]
                        rfl
                      refine pure_ (i := 8) (N := some 57) (v := undef) (a' := ?_) #[true, true, true, true, true, true, true, true, true, false, false, false] rfl rfl (any_of HT_.out (by kernel_rfl)) (fun _ _ _ h => h) (Or.inr ⟨by rfl, rfl⟩) ?_ ?_
                      rotate_left
                      · simp only [Act.put, List.setIfInBounds_toArray, List.set_cons_zero, List.set_cons_succ, i64_w, i32_w]
                        rfl
                      refine pure_ (i := 9) (N := some 58) (v := undef) (a' := ?_) #[true, true, true, true, true, true, true, true, true, true, false, false] rfl rfl (any_of HT_.out (by kernel_rfl)) (fun _ _ _ h => h) (Or.inr ⟨by rfl, rfl⟩) ?_ ?_
                      rotate_left
                      · simp only [Act.put, List.setIfInBounds_toArray, List.set_cons_zero, List.set_cons_succ, i64_w, i32_w]
                        rfl
                      refine pure_ (i := 10) (N := some 59) (v := undef) (a' := ?_) #[true, true, true, true, true, true, true, true, true, true, true, false] rfl rfl (any_of HT_.out (by kernel_rfl)) (fun _ _ _ h => h) (Or.inr ⟨by rfl, rfl⟩) ?_ ?_
                      rotate_left
                      · simp only [Act.put, List.setIfInBounds_toArray, List.set_cons_zero, List.set_cons_succ, i64_w, i32_w]
                        rfl
                      refine pure_ (i := 11) (N := some 60) (v := ?_) (a' := ?_) #[true, true, true, true, true, true, true, true, true, true, true, true] rfl rfl (any_of HT_.out (by kernel_rfl)) (fun _ _ _ h => h) (Or.inl ⟨by rfl, ?_⟩) ?_ ?_
                      rotate_left
                      · intro w'
                        go_simp
                        with_reducible rfl
                      rotate_left
                      · simp only [Act.put, List.setIfInBounds_toArray, List.set_cons_zero, List.set_cons_succ, i64_w, i32_w]
                        rfl
                      refine done_ (done_of HT_.out (by kernel_rfl)) ?_
                      try go_wp2
                      go_roundg kj5
                      case measure => have := HK1.out; have := HJ5.out; omega
                      case rel => exact ⟨(wrap64 (x10_1 + 1)), (by first | rfl | (simp; done) | (simp [*]; done)), H', ⟨by have := HK1.out; have := HJ5.out; omega⟩, ⟨by repeat (first | (with_reducible first | exact HB.out | apply below_alloc | apply pw_below_drewN | apply below_drew1 | refine below_set ?_ GE244.out) | exact HB.out)⟩⟩
            · rw [if_neg c5] at H
              exact absurd H (by simp)
          · rw [if_neg c4] at H
            exact absurd H (by simp)
        · rw [if_neg c3] at H
          have c3b0 : decide (x10_1 < (l0.length : Int)) = false := decide_eq_false c3
          clear c3
          obtain rfl := Option.some.inj H
          go_wp2
          go_ret
          exact ⟨by first | rfl | (simp [errW_none, errW_some] <;> rfl) | (simp [*, errW_none, errW_some] <;> rfl) | (simp only [isEmpty_ne_, isEmpty_eq_]; rfl) | (simp [*, isEmpty_ne_, isEmpty_eq_]; done), by repeat (first | (with_reducible first | exact HB.out | apply below_alloc | apply pw_below_drewN | apply below_drew1) | exact HB.out)⟩

end Go.Proofs.YtjnlmmjadlidlaaDoor.PNames
