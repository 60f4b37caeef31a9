-- Written by a program of mine (wip/kprint.sh): a plain Lean function for each Go function, and the proof that the Go code comes to its answers. Not trusted: Lean checks it.
import Derived.Test.YtjnlmmjadlidlaaDoorPNamesx0
import Derived.Test.YtjnlmmjadlidlaaDoorNE1
import Derived.Test.YtjnlmmjadlidlaaDoorNGL
namespace Go.Proofs.YtjnlmmjadlidlaaDoor.PNames
open Go.RowKit Go.Proofs.YtjnlmmjadlidlaaDoorW.PrintWords Go.Proofs.YtjnlmmjadlidlaaDoorW.PrintLast Go.Proofs.YtjnlmmjadlidlaaDoorW.PrintMore
attribute [local go_sem] max2_int min2_int max_two min_two max_three min_three max_four min_four   -- for this text's walks alone
set_option linter.unusedVariables false
set_option linter.unusedSimpArgs false

/-! ### names_Plain: function 25 -/
def names_Plain.f (a0_0 : ByteArray) (a0_1 : Int) (a0_2 : Int) (a0_3 : ByteArray) : Option (ByteArray) := if a0_1 = 1 then ((strconv_Itoa.f a0_2).bind fun t142 => (some t142)) else (if a0_1 = 2 then (some a0_3) else (if a0_1 = 3 then (some (⟨#[40, 110, 117, 108, 108, 41]⟩ : ByteArray)) else (some (⟨#[]⟩ : ByteArray))))
set_option maxHeartbeats 8000000 in
set_option maxRecDepth 100000 in
theorem names_Plain.calls (a0_0 : ByteArray) (a0_1 : Int) (a0_2 : Int) (a0_3 : ByteArray) (r : ByteArray) (w : World) (hG : GL w) (h : names_Plain.f a0_0 a0_1 a0_2 a0_3 = some r) :
    Calls Tryd.prog 25 #[.agg #[.string a0_0, .int .i64 a0_1, .int .i64 a0_2, .string a0_3]] w fun e w' => e = .returned (.string r) ∧ Below w.heap.size w w' := by
  have hu34 := Tryd.underlying34
  have HB := Aside0.mk (Below.refl w.heap.size w)
  have HGL := Aside0.mk hG
  clear hG
  have H : (if a0_1 = 1 then ((strconv_Itoa.f a0_2).bind fun t142 => (some t142)) else (if a0_1 = 2 then (some a0_3) else (if a0_1 = 3 then (some (⟨#[40, 110, 117, 108, 108, 41]⟩ : ByteArray)) else (some (⟨#[]⟩ : ByteArray))))) = some r := h
  clear h
  by_cases c2 : a0_1 = 1
  · rw [if_pos c2] at H
    have c2b0 : (a0_1 == 1) = true := beq_iff_eq.mpr c2
    have c2b1 : (a0_1 != 1) = false := bne_eq_false_iff_eq.mpr c2
    clear c2
    replace H := Option.bind_eq_some_iff.mp H
    obtain ⟨t142, A30, H⟩ := H
    replace H : (some t142) = some r := H
    have A3 := Aside0.mk A30
    clear A30
    obtain rfl := Option.some.inj H
    go_enter Tryd.func25, Tryd.ntmps25
    go_wp2_with (first | ((with_reducible refine gate_dst (N := 1) rfl ?_); refine box_event ?hg (N := 1) ?hd (cs := #[.string a0_0, .int .i64 a0_1, .int .i64 a0_2, .string a0_3]) (t := 34) ?hr ?_; (case hd => rfl); (case hg => rfl); (case hr => first | (go_simp; done) | (go_simp; rfl)); intro gb141 hg w4 hbox hb; have n0_ := Aside0.mk (below_step (by repeat (first | (with_reducible first | exact HB.out | apply below_alloc | apply pw_below_drewN | apply below_drew1) | exact HB.out)) hb); have n1_ := Aside0.mk (hbox); have n2_ := Aside0.mk ((by rw [hg]; exact (below_size (by repeat (first | (with_reducible first | exact HB.out | apply below_alloc | apply pw_below_drewN | apply below_drew1) | exact HB.out))) : w.heap.size ≤ gb141)); have n3_ := Aside0.mk ((by rw [hg]; exact (below_size (by repeat (first | (with_reducible first | exact HB.out | apply below_alloc | apply pw_below_drewN | apply below_drew1) | exact HB.out))) : w.heap.size ≤ gb141)); clear HB; have HB := n0_; have BK141 := n1_; have GW141 := n2_; have GE141 := n3_; clear n0_ n1_ n2_ n3_; clear hb hbox hg; have hcz5_0 : w4.cell? ⟨gb141, 0, none⟩ = some (.string a0_0) := (blk_cell BK141.out 0).trans rfl; have hcz5_1 : w4.cell? ⟨gb141, 1, none⟩ = some (.int .i64 a0_1) := (blk_cell BK141.out 1).trans rfl; have hcz5_2 : w4.cell? ⟨gb141, 2, none⟩ = some (.int .i64 a0_2) := (blk_cell BK141.out 2).trans rfl; have hcz5_3 : w4.cell? ⟨gb141, 3, none⟩ = some (.string a0_3) := (blk_cell BK141.out 3).trans rfl; have hfz5_0 := blk_frozen BK141.out 0; have hfz5_1 := blk_frozen BK141.out 1; have hfz5_2 := blk_frozen BK141.out 2; have hfz5_3 := blk_frozen BK141.out 3) | ((with_reducible refine gate_callee (f := 69) rfl ?_); refine goesL_ (some 9) rfl rfl Tryd.func69 (by kernel_rfl) rfl #[.int .i64 a0_2] rfl (by (try simp only [List.map_toArray, List.map_cons, List.map_nil]); first | done | rfl | (simp only [List.length_drop, List.length_take]; rfl)) ?_; (with_reducible refine (strconv_Itoa.calls a0_2 t142 _ ?side1 A3.out).mono ?_); (case side1 => refine GL.below HGL.out ?_; repeat (first | (with_reducible first | exact HB.out | apply below_alloc | apply pw_below_drewN | apply below_drew1 | refine below_set ?_ GE141.out) | exact HB.out)); rintro e w6 ⟨rfl, hb⟩; refine ⟨_, rfl, ?_⟩; have n0_ := Aside0.mk (blk_below (g := gb141) (o := .cells #[.string a0_0, .int .i64 a0_1, .int .i64 a0_2, .string a0_3] 34 (0, 0)) (by (with_reducible repeat (first | refine blk_drewN ?_ _ | refine blk_drew ?_ | refine blk_alloc ?_ _)); exact BK141.out) hb); have n1_ := Aside0.mk (below_step (by repeat (first | (with_reducible first | exact HB.out | apply below_alloc | apply pw_below_drewN | apply below_drew1 | refine below_set ?_ GE141.out) | exact HB.out)) hb); clear BK141; clear HB; have BK141 := n0_; have HB := n1_; clear n0_ n1_; (try clear hb); (try clear hb2); (try clear hk); (try clear hi)))
    go_ret
    exact ⟨by first | rfl | (simp [errW_none, errW_some] <;> rfl) | (simp [*, errW_none, errW_some] <;> rfl) | (simp only [isEmpty_ne_, isEmpty_eq_]; rfl) | (simp [*, isEmpty_ne_, isEmpty_eq_]; done), by repeat (first | (with_reducible first | exact HB.out | apply below_alloc | apply pw_below_drewN | apply below_drew1 | refine below_set ?_ GE141.out) | exact HB.out)⟩
  · rw [if_neg c2] at H
    have c2b0 : (a0_1 == 1) = false := beq_eq_false_iff_ne.mpr c2
    have c2b1 : (a0_1 != 1) = true := bne_iff_ne.mpr c2
    by_cases c7 : a0_1 = 2
    · rw [if_pos c7] at H
      have c7b0 : (a0_1 == 2) = true := beq_iff_eq.mpr c7
      have c7b1 : (a0_1 != 2) = false := bne_eq_false_iff_eq.mpr c7
      clear c7
      obtain rfl := Option.some.inj H
      go_enter Tryd.func25, Tryd.ntmps25
      go_wp2_with (first | ((with_reducible refine gate_dst (N := 1) rfl ?_); refine box_event ?hg (N := 1) ?hd (cs := #[.string a0_0, .int .i64 a0_1, .int .i64 a0_2, .string a0_3]) (t := 34) ?hr ?_; (case hd => rfl); (case hg => rfl); (case hr => first | (go_simp; done) | (go_simp; rfl)); intro gb141 hg w8 hbox hb; have n0_ := Aside0.mk (below_step (by repeat (first | (with_reducible first | exact HB.out | apply below_alloc | apply pw_below_drewN | apply below_drew1) | exact HB.out)) hb); have n1_ := Aside0.mk (hbox); have n2_ := Aside0.mk ((by rw [hg]; exact (below_size (by repeat (first | (with_reducible first | exact HB.out | apply below_alloc | apply pw_below_drewN | apply below_drew1) | exact HB.out))) : w.heap.size ≤ gb141)); have n3_ := Aside0.mk ((by rw [hg]; exact (below_size (by repeat (first | (with_reducible first | exact HB.out | apply below_alloc | apply pw_below_drewN | apply below_drew1) | exact HB.out))) : w.heap.size ≤ gb141)); clear HB; have HB := n0_; have BK141 := n1_; have GW141 := n2_; have GE141 := n3_; clear n0_ n1_ n2_ n3_; clear hb hbox hg; have hcz9_0 : w8.cell? ⟨gb141, 0, none⟩ = some (.string a0_0) := (blk_cell BK141.out 0).trans rfl; have hcz9_1 : w8.cell? ⟨gb141, 1, none⟩ = some (.int .i64 a0_1) := (blk_cell BK141.out 1).trans rfl; have hcz9_2 : w8.cell? ⟨gb141, 2, none⟩ = some (.int .i64 a0_2) := (blk_cell BK141.out 2).trans rfl; have hcz9_3 : w8.cell? ⟨gb141, 3, none⟩ = some (.string a0_3) := (blk_cell BK141.out 3).trans rfl; have hfz9_0 := blk_frozen BK141.out 0; have hfz9_1 := blk_frozen BK141.out 1; have hfz9_2 := blk_frozen BK141.out 2; have hfz9_3 := blk_frozen BK141.out 3))
      go_ret
      exact ⟨by first | rfl | (simp [errW_none, errW_some] <;> rfl) | (simp [*, errW_none, errW_some] <;> rfl) | (simp only [isEmpty_ne_, isEmpty_eq_]; rfl) | (simp [*, isEmpty_ne_, isEmpty_eq_]; done), by repeat (first | (with_reducible first | exact HB.out | apply below_alloc | apply pw_below_drewN | apply below_drew1 | refine below_set ?_ GE141.out) | exact HB.out)⟩
    · rw [if_neg c7] at H
      have c7b0 : (a0_1 == 2) = false := beq_eq_false_iff_ne.mpr c7
      have c7b1 : (a0_1 != 2) = true := bne_iff_ne.mpr c7
      by_cases c10 : a0_1 = 3
      · rw [if_pos c10] at H
        have c10b0 : (a0_1 == 3) = true := beq_iff_eq.mpr c10
        have c10b1 : (a0_1 != 3) = false := bne_eq_false_iff_eq.mpr c10
        clear c10
        obtain rfl := Option.some.inj H
        go_enter Tryd.func25, Tryd.ntmps25
        go_wp2_with (first | ((with_reducible refine gate_dst (N := 1) rfl ?_); refine box_event ?hg (N := 1) ?hd (cs := #[.string a0_0, .int .i64 a0_1, .int .i64 a0_2, .string a0_3]) (t := 34) ?hr ?_; (case hd => rfl); (case hg => rfl); (case hr => first | (go_simp; done) | (go_simp; rfl)); intro gb141 hg w11 hbox hb; have n0_ := Aside0.mk (below_step (by repeat (first | (with_reducible first | exact HB.out | apply below_alloc | apply pw_below_drewN | apply below_drew1) | exact HB.out)) hb); have n1_ := Aside0.mk (hbox); have n2_ := Aside0.mk ((by rw [hg]; exact (below_size (by repeat (first | (with_reducible first | exact HB.out | apply below_alloc | apply pw_below_drewN | apply below_drew1) | exact HB.out))) : w.heap.size ≤ gb141)); have n3_ := Aside0.mk ((by rw [hg]; exact (below_size (by repeat (first | (with_reducible first | exact HB.out | apply below_alloc | apply pw_below_drewN | apply below_drew1) | exact HB.out))) : w.heap.size ≤ gb141)); clear HB; have HB := n0_; have BK141 := n1_; have GW141 := n2_; have GE141 := n3_; clear n0_ n1_ n2_ n3_; clear hb hbox hg; have hcz12_0 : w11.cell? ⟨gb141, 0, none⟩ = some (.string a0_0) := (blk_cell BK141.out 0).trans rfl; have hcz12_1 : w11.cell? ⟨gb141, 1, none⟩ = some (.int .i64 a0_1) := (blk_cell BK141.out 1).trans rfl; have hcz12_2 : w11.cell? ⟨gb141, 2, none⟩ = some (.int .i64 a0_2) := (blk_cell BK141.out 2).trans rfl; have hcz12_3 : w11.cell? ⟨gb141, 3, none⟩ = some (.string a0_3) := (blk_cell BK141.out 3).trans rfl; have hfz12_0 := blk_frozen BK141.out 0; have hfz12_1 := blk_frozen BK141.out 1; have hfz12_2 := blk_frozen BK141.out 2; have hfz12_3 := blk_frozen BK141.out 3))
        go_ret
        exact ⟨by first | rfl | (simp [errW_none, errW_some] <;> rfl) | (simp [*, errW_none, errW_some] <;> rfl) | (simp only [isEmpty_ne_, isEmpty_eq_]; rfl) | (simp [*, isEmpty_ne_, isEmpty_eq_]; done), by repeat (first | (with_reducible first | exact HB.out | apply below_alloc | apply pw_below_drewN | apply below_drew1 | refine below_set ?_ GE141.out) | exact HB.out)⟩
      · rw [if_neg c10] at H
        have c10b0 : (a0_1 == 3) = false := beq_eq_false_iff_ne.mpr c10
        have c10b1 : (a0_1 != 3) = true := bne_iff_ne.mpr c10
        obtain rfl := Option.some.inj H
        go_enter Tryd.func25, Tryd.ntmps25
        go_wp2_with (first | ((with_reducible refine gate_dst (N := 1) rfl ?_); refine box_event ?hg (N := 1) ?hd (cs := #[.string a0_0, .int .i64 a0_1, .int .i64 a0_2, .string a0_3]) (t := 34) ?hr ?_; (case hd => rfl); (case hg => rfl); (case hr => first | (go_simp; done) | (go_simp; rfl)); intro gb141 hg w13 hbox hb; have n0_ := Aside0.mk (below_step (by repeat (first | (with_reducible first | exact HB.out | apply below_alloc | apply pw_below_drewN | apply below_drew1) | exact HB.out)) hb); have n1_ := Aside0.mk (hbox); have n2_ := Aside0.mk ((by rw [hg]; exact (below_size (by repeat (first | (with_reducible first | exact HB.out | apply below_alloc | apply pw_below_drewN | apply below_drew1) | exact HB.out))) : w.heap.size ≤ gb141)); have n3_ := Aside0.mk ((by rw [hg]; exact (below_size (by repeat (first | (with_reducible first | exact HB.out | apply below_alloc | apply pw_below_drewN | apply below_drew1) | exact HB.out))) : w.heap.size ≤ gb141)); clear HB; have HB := n0_; have BK141 := n1_; have GW141 := n2_; have GE141 := n3_; clear n0_ n1_ n2_ n3_; clear hb hbox hg; have hcz14_0 : w13.cell? ⟨gb141, 0, none⟩ = some (.string a0_0) := (blk_cell BK141.out 0).trans rfl; have hcz14_1 : w13.cell? ⟨gb141, 1, none⟩ = some (.int .i64 a0_1) := (blk_cell BK141.out 1).trans rfl; have hcz14_2 : w13.cell? ⟨gb141, 2, none⟩ = some (.int .i64 a0_2) := (blk_cell BK141.out 2).trans rfl; have hcz14_3 : w13.cell? ⟨gb141, 3, none⟩ = some (.string a0_3) := (blk_cell BK141.out 3).trans rfl; have hfz14_0 := blk_frozen BK141.out 0; have hfz14_1 := blk_frozen BK141.out 1; have hfz14_2 := blk_frozen BK141.out 2; have hfz14_3 := blk_frozen BK141.out 3))
        go_ret
        exact ⟨by first | rfl | (simp [errW_none, errW_some] <;> rfl) | (simp [*, errW_none, errW_some] <;> rfl) | (simp only [isEmpty_ne_, isEmpty_eq_]; rfl) | (simp [*, isEmpty_ne_, isEmpty_eq_]; done), by repeat (first | (with_reducible first | exact HB.out | apply below_alloc | apply pw_below_drewN | apply below_drew1 | refine below_set ?_ GE141.out) | exact HB.out)⟩

end Go.Proofs.YtjnlmmjadlidlaaDoor.PNames
