-- Written by a program of mine (wip/kprint.sh): a plain Lean function for each Go function, and the proof that the Go code comes to its answers. Not trusted: Lean checks it.
import Derived.Test.YtjnlmmjadlidlaaDoorPNamesx0
import Derived.Test.YtjnlmmjadlidlaaDoorNE7
namespace Go.Proofs.YtjnlmmjadlidlaaDoor.PNames
open Go.RowKit Go.Proofs.YtjnlmmjadlidlaaDoorW.PrintWords Go.Proofs.YtjnlmmjadlidlaaDoorW.PrintLast Go.Proofs.YtjnlmmjadlidlaaDoorW.PrintMore
attribute [local go_sem] max2_int min2_int max_two min_two max_three min_three max_four min_four   -- for this text's walks alone
set_option linter.unusedVariables false
set_option linter.unusedSimpArgs false

/-! ### kauditref02_Number: function 70 -/
def kauditref02_Number.f (a0 : Int) : Option (ByteArray) := if a0 ≥ 0 then ((kauditref01_Decimal.f a0).bind fun t178 => (some t178)) else (if (wrap64 (-a0)) < 0 then ((kauditref01_Decimal.f (wrap64 (-(wrap64 (Int.tdiv a0 10))))).bind fun t179 => (if 1 + t179.size ≤ 9223372036854775807 then ((kauditref01_Decimal.f (wrap64 (-(Int.tmod a0 10)))).bind fun t180 => (if 1 + t179.size + t180.size ≤ 9223372036854775807 then (some (((⟨#[45]⟩ : ByteArray) ++ t179) ++ t180)) else (none))) else (none))) else ((kauditref01_Decimal.f (wrap64 (-a0))).bind fun t181 => (if 1 + t181.size ≤ 9223372036854775807 then (some ((⟨#[45]⟩ : ByteArray) ++ t181)) else (none))))
set_option maxHeartbeats 8000000 in
set_option maxRecDepth 100000 in
theorem kauditref02_Number.calls (a0 : Int) (r : ByteArray) (w : World) (h : kauditref02_Number.f a0 = some r) :
    Calls Tryd.prog 70 #[.int .i64 a0] w fun e w' => e = .returned (.string r) ∧ Below w.heap.size w w' := by
  have HB := Aside0.mk (Below.refl w.heap.size w)
  have H : (if a0 ≥ 0 then ((kauditref01_Decimal.f a0).bind fun t178 => (some t178)) else (if (wrap64 (-a0)) < 0 then ((kauditref01_Decimal.f (wrap64 (-(wrap64 (Int.tdiv a0 10))))).bind fun t179 => (if 1 + t179.size ≤ 9223372036854775807 then ((kauditref01_Decimal.f (wrap64 (-(Int.tmod a0 10)))).bind fun t180 => (if 1 + t179.size + t180.size ≤ 9223372036854775807 then (some (((⟨#[45]⟩ : ByteArray) ++ t179) ++ t180)) else (none))) else (none))) else ((kauditref01_Decimal.f (wrap64 (-a0))).bind fun t181 => (if 1 + t181.size ≤ 9223372036854775807 then (some ((⟨#[45]⟩ : ByteArray) ++ t181)) else (none))))) = some r := h
  clear h
  by_cases c2 : a0 ≥ 0
  · rw [if_pos c2] at H
    have c2b0 : decide (0 ≤ a0) = true := decide_eq_true c2
    clear c2
    replace H := Option.bind_eq_some_iff.mp H
    obtain ⟨t178, A30, H⟩ := H
    replace H : (some t178) = some r := H
    have A3 := Aside0.mk A30
    clear A30
    obtain rfl := Option.some.inj H
    go_enter Tryd.func70, Tryd.ntmps70
    go_wp2_with (first | ((with_reducible refine gate_callee (f := 113) rfl ?_); refine goesL_ (some 6) rfl rfl Tryd.func113 (by kernel_rfl) rfl #[.int .i64 a0] rfl (by (try simp only [List.map_toArray, List.map_cons, List.map_nil]); first | done | rfl | (simp only [List.length_drop, List.length_take]; rfl)) ?_; (with_reducible refine (kauditref01_Decimal.calls a0 t178 _ A3.out).mono ?_); rintro e w4 ⟨rfl, hb⟩; refine ⟨_, rfl, ?_⟩; have n0_ := Aside0.mk (below_step (by repeat (first | (with_reducible first | exact HB.out | apply below_alloc | apply pw_below_drewN | apply below_drew1) | exact HB.out)) hb); clear HB; have HB := n0_; clear n0_; (try clear hb); (try clear hb2); (try clear hk); (try clear hi)))
    go_ret
    exact ⟨by first | rfl | (simp [errW_none, errW_some] <;> rfl) | (simp [*, errW_none, errW_some] <;> rfl) | (simp only [isEmpty_ne_, isEmpty_eq_]; rfl) | (simp [*, isEmpty_ne_, isEmpty_eq_]; done), by repeat (first | (with_reducible first | exact HB.out | apply below_alloc | apply pw_below_drewN | apply below_drew1) | exact HB.out)⟩
  · rw [if_neg c2] at H
    have c2b0 : decide (0 ≤ a0) = false := decide_eq_false c2
    clear c2
    by_cases c5 : (wrap64 (-a0)) < 0
    · rw [if_pos c5] at H
      have c5b0 : decide ((wrap64 (-a0)) < 0) = true := decide_eq_true c5
      clear c5
      replace H := Option.bind_eq_some_iff.mp H
      obtain ⟨t179, A60, H⟩ := H
      replace H : (if 1 + t179.size ≤ 9223372036854775807 then ((kauditref01_Decimal.f (wrap64 (-(Int.tmod a0 10)))).bind fun t180 => (if 1 + t179.size + t180.size ≤ 9223372036854775807 then (some (((⟨#[45]⟩ : ByteArray) ++ t179) ++ t180)) else (none))) else (none)) = some r := H
      have A6 := Aside0.mk A60
      clear A60
      by_cases c7 : 1 + t179.size ≤ 9223372036854775807
      · rw [if_pos c7] at H
        have c7b0 := eq_true c7
        have c7b1 : decide (1 + t179.size ≤ 9223372036854775807) = true := decide_eq_true c7
        try have c7b2 : (9223372036854775807 < 1 + t179.size) = False := eq_false (Nat.not_lt.2 c7)
        replace H := Option.bind_eq_some_iff.mp H
        obtain ⟨t180, A80, H⟩ := H
        replace H : (if 1 + t179.size + t180.size ≤ 9223372036854775807 then (some (((⟨#[45]⟩ : ByteArray) ++ t179) ++ t180)) else (none)) = some r := H
        have A8 := Aside0.mk A80
        clear A80
        by_cases c9 : 1 + t179.size + t180.size ≤ 9223372036854775807
        · rw [if_pos c9] at H
          have c9b0 := eq_true c9
          have c9b1 : decide (1 + t179.size + t180.size ≤ 9223372036854775807) = true := decide_eq_true c9
          try have c9b2 : (9223372036854775807 < 1 + t179.size + t180.size) = False := eq_false (Nat.not_lt.2 c9)
          obtain rfl := Option.some.inj H
          go_enter Tryd.func70, Tryd.ntmps70
          go_wp2_with (first | ((with_reducible refine gate_callee (f := 113) rfl ?_); refine goesL_ (some 13) rfl rfl Tryd.func113 (by kernel_rfl) rfl #[.int .i64 (wrap64 (-(wrap64 (Int.tdiv a0 10))))] rfl (by (try simp only [List.map_toArray, List.map_cons, List.map_nil]); first | done | rfl | (simp only [List.length_drop, List.length_take]; rfl)) ?_; (with_reducible refine (kauditref01_Decimal.calls (wrap64 (-(wrap64 (Int.tdiv a0 10)))) t179 _ A6.out).mono ?_); rintro e w10 ⟨rfl, hb⟩; refine ⟨_, rfl, ?_⟩; have n0_ := Aside0.mk (below_step (by repeat (first | (with_reducible first | exact HB.out | apply below_alloc | apply pw_below_drewN | apply below_drew1) | exact HB.out)) hb); clear HB; have HB := n0_; clear n0_; (try clear hb); (try clear hb2); (try clear hk); (try clear hi)) | ((with_reducible refine gate_callee (f := 113) rfl ?_); refine goesL_ (some 18) rfl rfl Tryd.func113 (by kernel_rfl) rfl #[.int .i64 (wrap64 (-(Int.tmod a0 10)))] rfl (by (try simp only [List.map_toArray, List.map_cons, List.map_nil]); first | done | rfl | (simp only [List.length_drop, List.length_take]; rfl)) ?_; (with_reducible refine (kauditref01_Decimal.calls (wrap64 (-(Int.tmod a0 10))) t180 _ A8.out).mono ?_); rintro e w11 ⟨rfl, hb⟩; refine ⟨_, rfl, ?_⟩; have n0_ := Aside0.mk (below_step (by repeat (first | (with_reducible first | exact HB.out | apply below_alloc | apply pw_below_drewN | apply below_drew1) | exact HB.out)) hb); clear HB; have HB := n0_; clear n0_; (try clear hb); (try clear hb2); (try clear hk); (try clear hi)))
          go_ret
          exact ⟨by first | rfl | (simp [errW_none, errW_some] <;> rfl) | (simp [*, errW_none, errW_some] <;> rfl) | (simp only [isEmpty_ne_, isEmpty_eq_]; rfl) | (simp [*, isEmpty_ne_, isEmpty_eq_]; done), by repeat (first | (with_reducible first | exact HB.out | apply below_alloc | apply pw_below_drewN | apply below_drew1) | exact HB.out)⟩
        · rw [if_neg c9] at H
          exact absurd H (by simp)
      · rw [if_neg c7] at H
        exact absurd H (by simp)
    · rw [if_neg c5] at H
      have c5b0 : decide ((wrap64 (-a0)) < 0) = false := decide_eq_false c5
      clear c5
      replace H := Option.bind_eq_some_iff.mp H
      obtain ⟨t181, A120, H⟩ := H
      replace H : (if 1 + t181.size ≤ 9223372036854775807 then (some ((⟨#[45]⟩ : ByteArray) ++ t181)) else (none)) = some r := H
      have A12 := Aside0.mk A120
      clear A120
      by_cases c13 : 1 + t181.size ≤ 9223372036854775807
      · rw [if_pos c13] at H
        have c13b0 := eq_true c13
        have c13b1 : decide (1 + t181.size ≤ 9223372036854775807) = true := decide_eq_true c13
        try have c13b2 : (9223372036854775807 < 1 + t181.size) = False := eq_false (Nat.not_lt.2 c13)
        obtain rfl := Option.some.inj H
        go_enter Tryd.func70, Tryd.ntmps70
        go_wp2_with (first | ((with_reducible refine gate_callee (f := 113) rfl ?_); refine goesL_ (some 22) rfl rfl Tryd.func113 (by kernel_rfl) rfl #[.int .i64 (wrap64 (-a0))] rfl (by (try simp only [List.map_toArray, List.map_cons, List.map_nil]); first | done | rfl | (simp only [List.length_drop, List.length_take]; rfl)) ?_; (with_reducible refine (kauditref01_Decimal.calls (wrap64 (-a0)) t181 _ A12.out).mono ?_); rintro e w14 ⟨rfl, hb⟩; refine ⟨_, rfl, ?_⟩; have n0_ := Aside0.mk (below_step (by repeat (first | (with_reducible first | exact HB.out | apply below_alloc | apply pw_below_drewN | apply below_drew1) | exact HB.out)) hb); clear HB; have HB := n0_; clear n0_; (try clear hb); (try clear hb2); (try clear hk); (try clear hi)))
        go_ret
        exact ⟨by first | rfl | (simp [errW_none, errW_some] <;> rfl) | (simp [*, errW_none, errW_some] <;> rfl) | (simp only [isEmpty_ne_, isEmpty_eq_]; rfl) | (simp [*, isEmpty_ne_, isEmpty_eq_]; done), by repeat (first | (with_reducible first | exact HB.out | apply below_alloc | apply pw_below_drewN | apply below_drew1) | exact HB.out)⟩
      · rw [if_neg c13] at H
        exact absurd H (by simp)

/-! ### kauditref37_Plain: function 26 -/
def kauditref37_Plain.f (a0_0 : ByteArray) (a0_1 : Int) (a0_2 : Int) (a0_3 : ByteArray) : Option (ByteArray) := if a0_1 = 1 then ((kauditref02_Number.f a0_2).bind fun t183 => (some t183)) else (if a0_1 = 2 then (some a0_3) else (if a0_1 = 3 then (some (⟨#[40, 110, 117, 108, 108, 41]⟩ : ByteArray)) else (some (⟨#[]⟩ : ByteArray))))
set_option maxHeartbeats 8000000 in
set_option maxRecDepth 100000 in
theorem kauditref37_Plain.calls (a0_0 : ByteArray) (a0_1 : Int) (a0_2 : Int) (a0_3 : ByteArray) (r : ByteArray) (w : World) (h : kauditref37_Plain.f a0_0 a0_1 a0_2 a0_3 = some r) :
    Calls Tryd.prog 26 #[.agg #[.string a0_0, .int .i64 a0_1, .int .i64 a0_2, .string a0_3]] w fun e w' => e = .returned (.string r) ∧ Below w.heap.size w w' := by
  have hu34 := Tryd.underlying34
  have HB := Aside0.mk (Below.refl w.heap.size w)
  have H : (if a0_1 = 1 then ((kauditref02_Number.f a0_2).bind fun t183 => (some t183)) else (if a0_1 = 2 then (some a0_3) else (if a0_1 = 3 then (some (⟨#[40, 110, 117, 108, 108, 41]⟩ : ByteArray)) else (some (⟨#[]⟩ : ByteArray))))) = some r := h
  clear h
  by_cases c2 : a0_1 = 1
  · rw [if_pos c2] at H
    have c2b0 : (a0_1 == 1) = true := beq_iff_eq.mpr c2
    have c2b1 : (a0_1 != 1) = false := bne_eq_false_iff_eq.mpr c2
    clear c2
    replace H := Option.bind_eq_some_iff.mp H
    obtain ⟨t183, A30, H⟩ := H
    replace H : (some t183) = some r := H
    have A3 := Aside0.mk A30
    clear A30
    obtain rfl := Option.some.inj H
    go_enter Tryd.func26, Tryd.ntmps26
    go_wp2_with (first | ((with_reducible refine gate_dst (N := 1) rfl ?_); refine box_event ?hg (N := 1) ?hd (cs := #[.string a0_0, .int .i64 a0_1, .int .i64 a0_2, .string a0_3]) (t := 34) ?hr ?_; (case hd => rfl); (case hg => rfl); (case hr => first | (go_simp; done) | (go_simp; rfl)); intro gb182 hg w4 hbox hb; have n0_ := Aside0.mk (below_step (by repeat (first | (with_reducible first | exact HB.out | apply below_alloc | apply pw_below_drewN | apply below_drew1) | exact HB.out)) hb); have n1_ := Aside0.mk (hbox); have n2_ := Aside0.mk ((by rw [hg]; exact (below_size (by repeat (first | (with_reducible first | exact HB.out | apply below_alloc | apply pw_below_drewN | apply below_drew1) | exact HB.out))) : w.heap.size ≤ gb182)); have n3_ := Aside0.mk ((by rw [hg]; exact (below_size (by repeat (first | (with_reducible first | exact HB.out | apply below_alloc | apply pw_below_drewN | apply below_drew1) | exact HB.out))) : w.heap.size ≤ gb182)); clear HB; have HB := n0_; have BK182 := n1_; have GW182 := n2_; have GE182 := n3_; clear n0_ n1_ n2_ n3_; clear hb hbox hg; have hcz5_0 : w4.cell? ⟨gb182, 0, none⟩ = some (.string a0_0) := (blk_cell BK182.out 0).trans rfl; have hcz5_1 : w4.cell? ⟨gb182, 1, none⟩ = some (.int .i64 a0_1) := (blk_cell BK182.out 1).trans rfl; have hcz5_2 : w4.cell? ⟨gb182, 2, none⟩ = some (.int .i64 a0_2) := (blk_cell BK182.out 2).trans rfl; have hcz5_3 : w4.cell? ⟨gb182, 3, none⟩ = some (.string a0_3) := (blk_cell BK182.out 3).trans rfl; have hfz5_0 := blk_frozen BK182.out 0; have hfz5_1 := blk_frozen BK182.out 1; have hfz5_2 := blk_frozen BK182.out 2; have hfz5_3 := blk_frozen BK182.out 3) | ((with_reducible refine gate_callee (f := 70) rfl ?_); refine goesL_ (some 9) rfl rfl Tryd.func70 (by kernel_rfl) rfl #[.int .i64 a0_2] rfl (by (try simp only [List.map_toArray, List.map_cons, List.map_nil]); first | done | rfl | (simp only [List.length_drop, List.length_take]; rfl)) ?_; (with_reducible refine (kauditref02_Number.calls a0_2 t183 _ A3.out).mono ?_); rintro e w6 ⟨rfl, hb⟩; refine ⟨_, rfl, ?_⟩; have n0_ := Aside0.mk (blk_below (g := gb182) (o := .cells #[.string a0_0, .int .i64 a0_1, .int .i64 a0_2, .string a0_3] 34 (0, 0)) (by (with_reducible repeat (first | refine blk_drewN ?_ _ | refine blk_drew ?_ | refine blk_alloc ?_ _)); exact BK182.out) hb); have n1_ := Aside0.mk (below_step (by repeat (first | (with_reducible first | exact HB.out | apply below_alloc | apply pw_below_drewN | apply below_drew1 | refine below_set ?_ GE182.out) | exact HB.out)) hb); clear BK182; clear HB; have BK182 := n0_; have HB := n1_; clear n0_ n1_; (try clear hb); (try clear hb2); (try clear hk); (try clear hi)))
    go_ret
    exact ⟨by first | rfl | (simp [errW_none, errW_some] <;> rfl) | (simp [*, errW_none, errW_some] <;> rfl) | (simp only [isEmpty_ne_, isEmpty_eq_]; rfl) | (simp [*, isEmpty_ne_, isEmpty_eq_]; done), by repeat (first | (with_reducible first | exact HB.out | apply below_alloc | apply pw_below_drewN | apply below_drew1 | refine below_set ?_ GE182.out) | exact HB.out)⟩
  · rw [if_neg c2] at H
    have c2b0 : (a0_1 == 1) = false := beq_eq_false_iff_ne.mpr c2
    have c2b1 : (a0_1 != 1) = true := bne_iff_ne.mpr c2
    by_cases c7 : a0_1 = 2
    · rw [if_pos c7] at H
      have c7b0 : (a0_1 == 2) = true := beq_iff_eq.mpr c7
      have c7b1 : (a0_1 != 2) = false := bne_eq_false_iff_eq.mpr c7
      clear c7
      obtain rfl := Option.some.inj H
      go_enter Tryd.func26, Tryd.ntmps26
      go_wp2_with (first | ((with_reducible refine gate_dst (N := 1) rfl ?_); refine box_event ?hg (N := 1) ?hd (cs := #[.string a0_0, .int .i64 a0_1, .int .i64 a0_2, .string a0_3]) (t := 34) ?hr ?_; (case hd => rfl); (case hg => rfl); (case hr => first | (go_simp; done) | (go_simp; rfl)); intro gb182 hg w8 hbox hb; have n0_ := Aside0.mk (below_step (by repeat (first | (with_reducible first | exact HB.out | apply below_alloc | apply pw_below_drewN | apply below_drew1) | exact HB.out)) hb); have n1_ := Aside0.mk (hbox); have n2_ := Aside0.mk ((by rw [hg]; exact (below_size (by repeat (first | (with_reducible first | exact HB.out | apply below_alloc | apply pw_below_drewN | apply below_drew1) | exact HB.out))) : w.heap.size ≤ gb182)); have n3_ := Aside0.mk ((by rw [hg]; exact (below_size (by repeat (first | (with_reducible first | exact HB.out | apply below_alloc | apply pw_below_drewN | apply below_drew1) | exact HB.out))) : w.heap.size ≤ gb182)); clear HB; have HB := n0_; have BK182 := n1_; have GW182 := n2_; have GE182 := n3_; clear n0_ n1_ n2_ n3_; clear hb hbox hg; have hcz9_0 : w8.cell? ⟨gb182, 0, none⟩ = some (.string a0_0) := (blk_cell BK182.out 0).trans rfl; have hcz9_1 : w8.cell? ⟨gb182, 1, none⟩ = some (.int .i64 a0_1) := (blk_cell BK182.out 1).trans rfl; have hcz9_2 : w8.cell? ⟨gb182, 2, none⟩ = some (.int .i64 a0_2) := (blk_cell BK182.out 2).trans rfl; have hcz9_3 : w8.cell? ⟨gb182, 3, none⟩ = some (.string a0_3) := (blk_cell BK182.out 3).trans rfl; have hfz9_0 := blk_frozen BK182.out 0; have hfz9_1 := blk_frozen BK182.out 1; have hfz9_2 := blk_frozen BK182.out 2; have hfz9_3 := blk_frozen BK182.out 3))
      go_ret
      exact ⟨by first | rfl | (simp [errW_none, errW_some] <;> rfl) | (simp [*, errW_none, errW_some] <;> rfl) | (simp only [isEmpty_ne_, isEmpty_eq_]; rfl) | (simp [*, isEmpty_ne_, isEmpty_eq_]; done), by repeat (first | (with_reducible first | exact HB.out | apply below_alloc | apply pw_below_drewN | apply below_drew1 | refine below_set ?_ GE182.out) | exact HB.out)⟩
    · rw [if_neg c7] at H
      have c7b0 : (a0_1 == 2) = false := beq_eq_false_iff_ne.mpr c7
      have c7b1 : (a0_1 != 2) = true := bne_iff_ne.mpr c7
      by_cases c10 : a0_1 = 3
      · rw [if_pos c10] at H
        have c10b0 : (a0_1 == 3) = true := beq_iff_eq.mpr c10
        have c10b1 : (a0_1 != 3) = false := bne_eq_false_iff_eq.mpr c10
        clear c10
        obtain rfl := Option.some.inj H
        go_enter Tryd.func26, Tryd.ntmps26
        go_wp2_with (first | ((with_reducible refine gate_dst (N := 1) rfl ?_); refine box_event ?hg (N := 1) ?hd (cs := #[.string a0_0, .int .i64 a0_1, .int .i64 a0_2, .string a0_3]) (t := 34) ?hr ?_; (case hd => rfl); (case hg => rfl); (case hr => first | (go_simp; done) | (go_simp; rfl)); intro gb182 hg w11 hbox hb; have n0_ := Aside0.mk (below_step (by repeat (first | (with_reducible first | exact HB.out | apply below_alloc | apply pw_below_drewN | apply below_drew1) | exact HB.out)) hb); have n1_ := Aside0.mk (hbox); have n2_ := Aside0.mk ((by rw [hg]; exact (below_size (by repeat (first | (with_reducible first | exact HB.out | apply below_alloc | apply pw_below_drewN | apply below_drew1) | exact HB.out))) : w.heap.size ≤ gb182)); have n3_ := Aside0.mk ((by rw [hg]; exact (below_size (by repeat (first | (with_reducible first | exact HB.out | apply below_alloc | apply pw_below_drewN | apply below_drew1) | exact HB.out))) : w.heap.size ≤ gb182)); clear HB; have HB := n0_; have BK182 := n1_; have GW182 := n2_; have GE182 := n3_; clear n0_ n1_ n2_ n3_; clear hb hbox hg; have hcz12_0 : w11.cell? ⟨gb182, 0, none⟩ = some (.string a0_0) := (blk_cell BK182.out 0).trans rfl; have hcz12_1 : w11.cell? ⟨gb182, 1, none⟩ = some (.int .i64 a0_1) := (blk_cell BK182.out 1).trans rfl; have hcz12_2 : w11.cell? ⟨gb182, 2, none⟩ = some (.int .i64 a0_2) := (blk_cell BK182.out 2).trans rfl; have hcz12_3 : w11.cell? ⟨gb182, 3, none⟩ = some (.string a0_3) := (blk_cell BK182.out 3).trans rfl; have hfz12_0 := blk_frozen BK182.out 0; have hfz12_1 := blk_frozen BK182.out 1; have hfz12_2 := blk_frozen BK182.out 2; have hfz12_3 := blk_frozen BK182.out 3))
        go_ret
        exact ⟨by first | rfl | (simp [errW_none, errW_some] <;> rfl) | (simp [*, errW_none, errW_some] <;> rfl) | (simp only [isEmpty_ne_, isEmpty_eq_]; rfl) | (simp [*, isEmpty_ne_, isEmpty_eq_]; done), by repeat (first | (with_reducible first | exact HB.out | apply below_alloc | apply pw_below_drewN | apply below_drew1 | refine below_set ?_ GE182.out) | exact HB.out)⟩
      · rw [if_neg c10] at H
        have c10b0 : (a0_1 == 3) = false := beq_eq_false_iff_ne.mpr c10
        have c10b1 : (a0_1 != 3) = true := bne_iff_ne.mpr c10
        obtain rfl := Option.some.inj H
        go_enter Tryd.func26, Tryd.ntmps26
        go_wp2_with (first | ((with_reducible refine gate_dst (N := 1) rfl ?_); refine box_event ?hg (N := 1) ?hd (cs := #[.string a0_0, .int .i64 a0_1, .int .i64 a0_2, .string a0_3]) (t := 34) ?hr ?_; (case hd => rfl); (case hg => rfl); (case hr => first | (go_simp; done) | (go_simp; rfl)); intro gb182 hg w13 hbox hb; have n0_ := Aside0.mk (below_step (by repeat (first | (with_reducible first | exact HB.out | apply below_alloc | apply pw_below_drewN | apply below_drew1) | exact HB.out)) hb); have n1_ := Aside0.mk (hbox); have n2_ := Aside0.mk ((by rw [hg]; exact (below_size (by repeat (first | (with_reducible first | exact HB.out | apply below_alloc | apply pw_below_drewN | apply below_drew1) | exact HB.out))) : w.heap.size ≤ gb182)); have n3_ := Aside0.mk ((by rw [hg]; exact (below_size (by repeat (first | (with_reducible first | exact HB.out | apply below_alloc | apply pw_below_drewN | apply below_drew1) | exact HB.out))) : w.heap.size ≤ gb182)); clear HB; have HB := n0_; have BK182 := n1_; have GW182 := n2_; have GE182 := n3_; clear n0_ n1_ n2_ n3_; clear hb hbox hg; have hcz14_0 : w13.cell? ⟨gb182, 0, none⟩ = some (.string a0_0) := (blk_cell BK182.out 0).trans rfl; have hcz14_1 : w13.cell? ⟨gb182, 1, none⟩ = some (.int .i64 a0_1) := (blk_cell BK182.out 1).trans rfl; have hcz14_2 : w13.cell? ⟨gb182, 2, none⟩ = some (.int .i64 a0_2) := (blk_cell BK182.out 2).trans rfl; have hcz14_3 : w13.cell? ⟨gb182, 3, none⟩ = some (.string a0_3) := (blk_cell BK182.out 3).trans rfl; have hfz14_0 := blk_frozen BK182.out 0; have hfz14_1 := blk_frozen BK182.out 1; have hfz14_2 := blk_frozen BK182.out 2; have hfz14_3 := blk_frozen BK182.out 3))
        go_ret
        exact ⟨by first | rfl | (simp [errW_none, errW_some] <;> rfl) | (simp [*, errW_none, errW_some] <;> rfl) | (simp only [isEmpty_ne_, isEmpty_eq_]; rfl) | (simp [*, isEmpty_ne_, isEmpty_eq_]; done), by repeat (first | (with_reducible first | exact HB.out | apply below_alloc | apply pw_below_drewN | apply below_drew1 | refine below_set ?_ GE182.out) | exact HB.out)⟩

/-! ### kauditref37_ErrorName: function 28 -/
def kauditref37_ErrorName.l0 : Nat → Int → List ByteArray → List Int → Int → Int → Option (ByteArray)
  | 0, _, _, _, _, _ => none
  | k + 1, x0, x3, x9, x10, x11 => if x11 < x10 then (if 0 ≤ x11 then (if x11 < (x9.length : Int) then (if (rd x9 x11) = x0 then (if x11 < (x3.length : Int) then (some (rdOf ByteArray.empty x3 x11)) else (none)) else (kauditref37_ErrorName.l0 k x0 x3 x9 x10 (wrap64 (x11 + 1)))) else (none)) else (none)) else (some (⟨#[]⟩ : ByteArray))
def kauditref37_ErrorName.f (k : Nat) (a0 : Int) : Option (ByteArray) := (some (([1, 2, 3, 4, 9, 11, 13, 16, 17, 18, 20, 21, 22, 24, 28, 36, 39, 40, 111] : List Int) : List Int)).bind fun y187 => (kauditref37_ErrorName.l0 k a0 (([(⟨#[69, 80, 69, 82, 77]⟩ : ByteArray), (⟨#[69, 78, 79, 69, 78, 84]⟩ : ByteArray), (⟨#[69, 83, 82, 67, 72]⟩ : ByteArray), (⟨#[69, 73, 78, 84, 82]⟩ : ByteArray), (⟨#[69, 66, 65, 68, 70]⟩ : ByteArray), (⟨#[69, 65, 71, 65, 73, 78]⟩ : ByteArray), (⟨#[69, 65, 67, 67, 69, 83]⟩ : ByteArray), (⟨#[69, 66, 85, 83, 89]⟩ : ByteArray), (⟨#[69, 69, 88, 73, 83, 84]⟩ : ByteArray), (⟨#[69, 88, 68, 69, 86]⟩ : ByteArray), (⟨#[69, 78, 79, 84, 68, 73, 82]⟩ : ByteArray), (⟨#[69, 73, 83, 68, 73, 82]⟩ : ByteArray), (⟨#[69, 73, 78, 86, 65, 76]⟩ : ByteArray), (⟨#[69, 77, 70, 73, 76, 69]⟩ : ByteArray), (⟨#[69, 78, 79, 83, 80, 67]⟩ : ByteArray), (⟨#[69, 78, 65, 77, 69, 84, 79, 79, 76, 79, 78, 71]⟩ : ByteArray), (⟨#[69, 78, 79, 84, 69, 77, 80, 84, 89]⟩ : ByteArray), (⟨#[69, 76, 79, 79, 80]⟩ : ByteArray), (⟨#[69, 67, 79, 78, 78, 82, 69, 70, 85, 83, 69, 68]⟩ : ByteArray)] : List ByteArray)) y187 (y187.length : Int) 0)
theorem kauditref37_ErrorName.mono_l : ∀ k, (∀ y0 y1 y2 y3 y4, LeO (kauditref37_ErrorName.l0 k y0 y1 y2 y3 y4) (kauditref37_ErrorName.l0 (k + 1) y0 y1 y2 y3 y4))
  | 0 => fun _ _ _ _ _ r h => by simp [kauditref37_ErrorName.l0] at h
  | k + 1 => by
    have ih0 := kauditref37_ErrorName.mono_l k
    · intro y0 y1 y2 y3 y4
      unfold kauditref37_ErrorName.l0
      repeat' first
      | (with_reducible exact ih0 _ _ _ _ _)
      | (with_reducible exact LeO.refl _)
      | (with_reducible exact LeO.none _)
      | (with_reducible refine LeO.ite ?_ ?_)
      | (with_reducible refine LeO.bind ?_ (fun _ => ?_))
      | exact ih0 _ _ _ _ _
      | exact LeO.none _
      | refine LeO.ite ?_ ?_
      | refine LeO.bind ?_ (fun _ => ?_)
theorem kauditref37_ErrorName.mono : ∀ a0 k, LeO (kauditref37_ErrorName.f k a0) (kauditref37_ErrorName.f (k + 1) a0) := by
  intro a0 k
  have ih0 := kauditref37_ErrorName.mono_l k
  unfold kauditref37_ErrorName.f
  repeat' first
      | (with_reducible exact ih0 _ _ _ _ _)
      | (with_reducible exact LeO.refl _)
      | (with_reducible exact LeO.none _)
      | (with_reducible refine LeO.ite ?_ ?_)
      | (with_reducible refine LeO.bind ?_ (fun _ => ?_))
      | exact ih0 _ _ _ _ _
      | exact LeO.none _
      | refine LeO.ite ?_ ?_
      | refine LeO.bind ?_ (fun _ => ?_)
set_option maxHeartbeats 8000000 in
set_option maxRecDepth 100000 in
theorem kauditref37_ErrorName.calls (k : Nat) (a0 : Int) (r : ByteArray) (w : World) (h : kauditref37_ErrorName.f k a0 = some r) :
    Calls Tryd.prog 28 #[.int .i64 a0] w fun e w' => e = .returned (.string r) ∧ Below w.heap.size w w' := by
  have HB := Aside0.mk (Below.refl w.heap.size w)
  have H : ((some (([1, 2, 3, 4, 9, 11, 13, 16, 17, 18, 20, 21, 22, 24, 28, 36, 39, 40, 111] : List Int) : List Int)).bind fun y187 => (kauditref37_ErrorName.l0 k a0 (([(⟨#[69, 80, 69, 82, 77]⟩ : ByteArray), (⟨#[69, 78, 79, 69, 78, 84]⟩ : ByteArray), (⟨#[69, 83, 82, 67, 72]⟩ : ByteArray), (⟨#[69, 73, 78, 84, 82]⟩ : ByteArray), (⟨#[69, 66, 65, 68, 70]⟩ : ByteArray), (⟨#[69, 65, 71, 65, 73, 78]⟩ : ByteArray), (⟨#[69, 65, 67, 67, 69, 83]⟩ : ByteArray), (⟨#[69, 66, 85, 83, 89]⟩ : ByteArray), (⟨#[69, 69, 88, 73, 83, 84]⟩ : ByteArray), (⟨#[69, 88, 68, 69, 86]⟩ : ByteArray), (⟨#[69, 78, 79, 84, 68, 73, 82]⟩ : ByteArray), (⟨#[69, 73, 83, 68, 73, 82]⟩ : ByteArray), (⟨#[69, 73, 78, 86, 65, 76]⟩ : ByteArray), (⟨#[69, 77, 70, 73, 76, 69]⟩ : ByteArray), (⟨#[69, 78, 79, 83, 80, 67]⟩ : ByteArray), (⟨#[69, 78, 65, 77, 69, 84, 79, 79, 76, 79, 78, 71]⟩ : ByteArray), (⟨#[69, 78, 79, 84, 69, 77, 80, 84, 89]⟩ : ByteArray), (⟨#[69, 76, 79, 79, 80]⟩ : ByteArray), (⟨#[69, 67, 79, 78, 78, 82, 69, 70, 85, 83, 69, 68]⟩ : ByteArray)] : List ByteArray)) y187 (y187.length : Int) 0)) = some r := h
  clear h
  obtain ⟨y184, hy184⟩ : ∃ y_ : List ByteArray, y_ = (([(⟨#[69, 80, 69, 82, 77]⟩ : ByteArray), (⟨#[69, 78, 79, 69, 78, 84]⟩ : ByteArray), (⟨#[69, 83, 82, 67, 72]⟩ : ByteArray), (⟨#[69, 73, 78, 84, 82]⟩ : ByteArray), (⟨#[69, 66, 65, 68, 70]⟩ : ByteArray), (⟨#[69, 65, 71, 65, 73, 78]⟩ : ByteArray), (⟨#[69, 65, 67, 67, 69, 83]⟩ : ByteArray), (⟨#[69, 66, 85, 83, 89]⟩ : ByteArray), (⟨#[69, 69, 88, 73, 83, 84]⟩ : ByteArray), (⟨#[69, 88, 68, 69, 86]⟩ : ByteArray), (⟨#[69, 78, 79, 84, 68, 73, 82]⟩ : ByteArray), (⟨#[69, 73, 83, 68, 73, 82]⟩ : ByteArray), (⟨#[69, 73, 78, 86, 65, 76]⟩ : ByteArray), (⟨#[69, 77, 70, 73, 76, 69]⟩ : ByteArray), (⟨#[69, 78, 79, 83, 80, 67]⟩ : ByteArray), (⟨#[69, 78, 65, 77, 69, 84, 79, 79, 76, 79, 78, 71]⟩ : ByteArray), (⟨#[69, 78, 79, 84, 69, 77, 80, 84, 89]⟩ : ByteArray), (⟨#[69, 76, 79, 79, 80]⟩ : ByteArray), (⟨#[69, 67, 79, 78, 78, 82, 69, 70, 85, 83, 69, 68]⟩ : ByteArray)] : List ByteArray)) := ⟨_, rfl⟩
  replace H : ((some (([1, 2, 3, 4, 9, 11, 13, 16, 17, 18, 20, 21, 22, 24, 28, 36, 39, 40, 111] : List Int) : List Int)).bind fun y187 => (kauditref37_ErrorName.l0 k a0 y184 y187 (y187.length : Int) 0)) = some r := by first | (rw [hy184]; with_reducible exact H) | (have H2_ := (Option.bind_some _ _).symm.trans H; rw [hy184]; with_reducible exact H2_) | (have H2_ := (Option.bind_some _ _).symm.trans H; with_reducible exact H2_) | with_reducible exact H | (rw [hy184]; exact H) | exact H
  have Ny184 := Aside0.mk hy184
  clear hy184
  obtain ⟨y187, hy187⟩ : ∃ y_ : List Int, y_ = (([1, 2, 3, 4, 9, 11, 13, 16, 17, 18, 20, 21, 22, 24, 28, 36, 39, 40, 111] : List Int)) := ⟨_, rfl⟩
  replace H : (kauditref37_ErrorName.l0 k a0 y184 y187 (y187.length : Int) 0) = some r := by first | (rw [hy187]; with_reducible exact H) | (have H2_ := (Option.bind_some _ _).symm.trans H; rw [hy187]; with_reducible exact H2_) | (have H2_ := (Option.bind_some _ _).symm.trans H; with_reducible exact H2_) | with_reducible exact H | (rw [hy187]; exact H) | exact H
  have Ny187 := Aside0.mk hy187
  clear hy187
  have H' := Aside0.mk H
  clear H
  go_enter Tryd.func28, Tryd.ntmps28
  go_wp2_with (first | ((with_reducible refine gate_dst (N := 7) rfl ?_); refine Kd.R_lit Kd.string _ 9 ?hg (N := 7) ?hd (xs := ([(⟨#[69, 80, 69, 82, 77]⟩ : ByteArray), (⟨#[69, 78, 79, 69, 78, 84]⟩ : ByteArray), (⟨#[69, 83, 82, 67, 72]⟩ : ByteArray), (⟨#[69, 73, 78, 84, 82]⟩ : ByteArray), (⟨#[69, 66, 65, 68, 70]⟩ : ByteArray), (⟨#[69, 65, 71, 65, 73, 78]⟩ : ByteArray), (⟨#[69, 65, 67, 67, 69, 83]⟩ : ByteArray), (⟨#[69, 66, 85, 83, 89]⟩ : ByteArray), (⟨#[69, 69, 88, 73, 83, 84]⟩ : ByteArray), (⟨#[69, 88, 68, 69, 86]⟩ : ByteArray), (⟨#[69, 78, 79, 84, 68, 73, 82]⟩ : ByteArray), (⟨#[69, 73, 83, 68, 73, 82]⟩ : ByteArray), (⟨#[69, 73, 78, 86, 65, 76]⟩ : ByteArray), (⟨#[69, 77, 70, 73, 76, 69]⟩ : ByteArray), (⟨#[69, 78, 79, 83, 80, 67]⟩ : ByteArray), (⟨#[69, 78, 65, 77, 69, 84, 79, 79, 76, 79, 78, 71]⟩ : ByteArray), (⟨#[69, 78, 79, 84, 69, 77, 80, 84, 89]⟩ : ByteArray), (⟨#[69, 76, 79, 79, 80]⟩ : ByteArray), (⟨#[69, 67, 79, 78, 78, 82, 69, 70, 85, 83, 69, 68]⟩ : ByteArray)] : List ByteArray)) (inner := [.string (⟨#[69, 80, 69, 82, 77]⟩ : ByteArray), .string (⟨#[69, 78, 79, 69, 78, 84]⟩ : ByteArray), .string (⟨#[69, 83, 82, 67, 72]⟩ : ByteArray), .string (⟨#[69, 73, 78, 84, 82]⟩ : ByteArray), .string (⟨#[69, 66, 65, 68, 70]⟩ : ByteArray), .string (⟨#[69, 65, 71, 65, 73, 78]⟩ : ByteArray), .string (⟨#[69, 65, 67, 67, 69, 83]⟩ : ByteArray), .string (⟨#[69, 66, 85, 83, 89]⟩ : ByteArray), .string (⟨#[69, 69, 88, 73, 83, 84]⟩ : ByteArray), .string (⟨#[69, 88, 68, 69, 86]⟩ : ByteArray), .string (⟨#[69, 78, 79, 84, 68, 73, 82]⟩ : ByteArray), .string (⟨#[69, 73, 83, 68, 73, 82]⟩ : ByteArray), .string (⟨#[69, 73, 78, 86, 65, 76]⟩ : ByteArray), .string (⟨#[69, 77, 70, 73, 76, 69]⟩ : ByteArray), .string (⟨#[69, 78, 79, 83, 80, 67]⟩ : ByteArray), .string (⟨#[69, 78, 65, 77, 69, 84, 79, 79, 76, 79, 78, 71]⟩ : ByteArray), .string (⟨#[69, 78, 79, 84, 69, 77, 80, 84, 89]⟩ : ByteArray), .string (⟨#[69, 76, 79, 79, 80]⟩ : ByteArray), .string (⟨#[69, 67, 79, 78, 78, 82, 69, 70, 85, 83, 69, 68]⟩ : ByteArray)]) (ok := fun _ => True) (okp := fun _ => True) ?hr ?hp (fun _ hk => hk) trivial (Below.refl _ _) (Nat.le_refl _) (by simp) ?_; (case hd => rfl); (case hg => rfl); (case hr => first | (go_simp; done) | (go_simp; rfl)); (case hp => exact (Reps.one (show Kd.M Kd.string _ _ _ (⟨#[69, 80, 69, 82, 77]⟩ : ByteArray) [.string (⟨#[69, 80, 69, 82, 77]⟩ : ByteArray)] from rfl) (Reps.one (show Kd.M Kd.string _ _ _ (⟨#[69, 78, 79, 69, 78, 84]⟩ : ByteArray) [.string (⟨#[69, 78, 79, 69, 78, 84]⟩ : ByteArray)] from rfl) (Reps.one (show Kd.M Kd.string _ _ _ (⟨#[69, 83, 82, 67, 72]⟩ : ByteArray) [.string (⟨#[69, 83, 82, 67, 72]⟩ : ByteArray)] from rfl) (Reps.one (show Kd.M Kd.string _ _ _ (⟨#[69, 73, 78, 84, 82]⟩ : ByteArray) [.string (⟨#[69, 73, 78, 84, 82]⟩ : ByteArray)] from rfl) (Reps.one (show Kd.M Kd.string _ _ _ (⟨#[69, 66, 65, 68, 70]⟩ : ByteArray) [.string (⟨#[69, 66, 65, 68, 70]⟩ : ByteArray)] from rfl) (Reps.one (show Kd.M Kd.string _ _ _ (⟨#[69, 65, 71, 65, 73, 78]⟩ : ByteArray) [.string (⟨#[69, 65, 71, 65, 73, 78]⟩ : ByteArray)] from rfl) (Reps.one (show Kd.M Kd.string _ _ _ (⟨#[69, 65, 67, 67, 69, 83]⟩ : ByteArray) [.string (⟨#[69, 65, 67, 67, 69, 83]⟩ : ByteArray)] from rfl) (Reps.one (show Kd.M Kd.string _ _ _ (⟨#[69, 66, 85, 83, 89]⟩ : ByteArray) [.string (⟨#[69, 66, 85, 83, 89]⟩ : ByteArray)] from rfl) (Reps.one (show Kd.M Kd.string _ _ _ (⟨#[69, 69, 88, 73, 83, 84]⟩ : ByteArray) [.string (⟨#[69, 69, 88, 73, 83, 84]⟩ : ByteArray)] from rfl) (Reps.one (show Kd.M Kd.string _ _ _ (⟨#[69, 88, 68, 69, 86]⟩ : ByteArray) [.string (⟨#[69, 88, 68, 69, 86]⟩ : ByteArray)] from rfl) (Reps.one (show Kd.M Kd.string _ _ _ (⟨#[69, 78, 79, 84, 68, 73, 82]⟩ : ByteArray) [.string (⟨#[69, 78, 79, 84, 68, 73, 82]⟩ : ByteArray)] from rfl) (Reps.one (show Kd.M Kd.string _ _ _ (⟨#[69, 73, 83, 68, 73, 82]⟩ : ByteArray) [.string (⟨#[69, 73, 83, 68, 73, 82]⟩ : ByteArray)] from rfl) (Reps.one (show Kd.M Kd.string _ _ _ (⟨#[69, 73, 78, 86, 65, 76]⟩ : ByteArray) [.string (⟨#[69, 73, 78, 86, 65, 76]⟩ : ByteArray)] from rfl) (Reps.one (show Kd.M Kd.string _ _ _ (⟨#[69, 77, 70, 73, 76, 69]⟩ : ByteArray) [.string (⟨#[69, 77, 70, 73, 76, 69]⟩ : ByteArray)] from rfl) (Reps.one (show Kd.M Kd.string _ _ _ (⟨#[69, 78, 79, 83, 80, 67]⟩ : ByteArray) [.string (⟨#[69, 78, 79, 83, 80, 67]⟩ : ByteArray)] from rfl) (Reps.one (show Kd.M Kd.string _ _ _ (⟨#[69, 78, 65, 77, 69, 84, 79, 79, 76, 79, 78, 71]⟩ : ByteArray) [.string (⟨#[69, 78, 65, 77, 69, 84, 79, 79, 76, 79, 78, 71]⟩ : ByteArray)] from rfl) (Reps.one (show Kd.M Kd.string _ _ _ (⟨#[69, 78, 79, 84, 69, 77, 80, 84, 89]⟩ : ByteArray) [.string (⟨#[69, 78, 79, 84, 69, 77, 80, 84, 89]⟩ : ByteArray)] from rfl) (Reps.one (show Kd.M Kd.string _ _ _ (⟨#[69, 76, 79, 79, 80]⟩ : ByteArray) [.string (⟨#[69, 76, 79, 79, 80]⟩ : ByteArray)] from rfl) (Reps.one (show Kd.M Kd.string _ _ _ (⟨#[69, 67, 79, 78, 78, 82, 69, 70, 85, 83, 69, 68]⟩ : ByteArray) [.string (⟨#[69, 67, 79, 78, 78, 82, 69, 70, 85, 83, 69, 68]⟩ : ByteArray)] from rfl) (Reps.none _ _))))))))))))))))))))); intro v185 w2 ho3 hb hg_ hnew_; clear hg_ hnew_; (first | rw [← Ny184.out] at ho3 | (simp only [Int.reduceToNat] at ho3; rw [← Ny184.out] at ho3)); have n0_ := Aside0.mk (Kd.R_lower ho3 (below_size (by repeat (first | (with_reducible first | exact HB.out | apply below_alloc | apply pw_below_drewN | apply below_drew1) | exact HB.out)))); have n1_ := Aside0.mk (below_step (by repeat (first | (with_reducible first | exact HB.out | apply below_alloc | apply pw_below_drewN | apply below_drew1) | exact HB.out)) hb); clear HB; have HO186 := n0_; have HB := n1_; clear n0_ n1_; clear hb ho3) | ((with_reducible refine gate_dst (N := 8) rfl ?_); refine Kd.R_lit (Kd.int .i64) _ 102 ?hg (N := 8) ?hd (xs := ([1, 2, 3, 4, 9, 11, 13, 16, 17, 18, 20, 21, 22, 24, 28, 36, 39, 40, 111] : List Int)) (inner := [.int .i64 1, .int .i64 2, .int .i64 3, .int .i64 4, .int .i64 9, .int .i64 11, .int .i64 13, .int .i64 16, .int .i64 17, .int .i64 18, .int .i64 20, .int .i64 21, .int .i64 22, .int .i64 24, .int .i64 28, .int .i64 36, .int .i64 39, .int .i64 40, .int .i64 111]) (ok := fun _ => True) (okp := fun _ => True) ?hr ?hp (fun _ hk => hk) trivial (Below.refl _ _) (Nat.le_refl _) (by simp) ?_; (case hd => rfl); (case hg => rfl); (case hr => first | (go_simp; done) | (go_simp; rfl)); (case hp => exact (Reps.one (show Kd.M (Kd.int .i64) _ _ _ 1 [.int .i64 1] from rfl) (Reps.one (show Kd.M (Kd.int .i64) _ _ _ 2 [.int .i64 2] from rfl) (Reps.one (show Kd.M (Kd.int .i64) _ _ _ 3 [.int .i64 3] from rfl) (Reps.one (show Kd.M (Kd.int .i64) _ _ _ 4 [.int .i64 4] from rfl) (Reps.one (show Kd.M (Kd.int .i64) _ _ _ 9 [.int .i64 9] from rfl) (Reps.one (show Kd.M (Kd.int .i64) _ _ _ 11 [.int .i64 11] from rfl) (Reps.one (show Kd.M (Kd.int .i64) _ _ _ 13 [.int .i64 13] from rfl) (Reps.one (show Kd.M (Kd.int .i64) _ _ _ 16 [.int .i64 16] from rfl) (Reps.one (show Kd.M (Kd.int .i64) _ _ _ 17 [.int .i64 17] from rfl) (Reps.one (show Kd.M (Kd.int .i64) _ _ _ 18 [.int .i64 18] from rfl) (Reps.one (show Kd.M (Kd.int .i64) _ _ _ 20 [.int .i64 20] from rfl) (Reps.one (show Kd.M (Kd.int .i64) _ _ _ 21 [.int .i64 21] from rfl) (Reps.one (show Kd.M (Kd.int .i64) _ _ _ 22 [.int .i64 22] from rfl) (Reps.one (show Kd.M (Kd.int .i64) _ _ _ 24 [.int .i64 24] from rfl) (Reps.one (show Kd.M (Kd.int .i64) _ _ _ 28 [.int .i64 28] from rfl) (Reps.one (show Kd.M (Kd.int .i64) _ _ _ 36 [.int .i64 36] from rfl) (Reps.one (show Kd.M (Kd.int .i64) _ _ _ 39 [.int .i64 39] from rfl) (Reps.one (show Kd.M (Kd.int .i64) _ _ _ 40 [.int .i64 40] from rfl) (Reps.one (show Kd.M (Kd.int .i64) _ _ _ 111 [.int .i64 111] from rfl) (Reps.none _ _))))))))))))))))))))); intro v188 w4 ho5 hb hg_ hnew_; clear hg_ hnew_; (first | rw [← Ny187.out] at ho5 | (simp only [Int.reduceToNat] at ho5; rw [← Ny187.out] at ho5)); have n0_ := Aside0.mk (Kd.R_below (by (with_reducible repeat (first | apply Kd.R_alloc | apply Kd.R_drewN | apply Kd.R_drew)); exact HO186.out) hb); have n1_ := Aside0.mk (Kd.R_lower ho5 (below_size (by repeat (first | (with_reducible first | exact HB.out | apply below_alloc | apply pw_below_drewN | apply below_drew1) | exact HB.out)))); have n2_ := Aside0.mk (below_step (by repeat (first | (with_reducible first | exact HB.out | apply below_alloc | apply pw_below_drewN | apply below_drew1) | exact HB.out)) hb); clear HO186; clear HB; have HO186 := n0_; have HO189 := n1_; have HB := n2_; clear n0_ n1_ n2_; clear hb ho5; obtain ⟨Ao6, co6, eo6⟩ := Kd.R_slice HO189.out; subst eo6))
  go_loopg [11] k (fun kq v11 w' => ∃ (x11_1 : Int), v11 = .int .i64 x11_1 ∧ Aside0 (kauditref37_ErrorName.l0 kq a0 y184 y187 (y187.length : Int) x11_1 = some r) ∧ Aside0 (kq ≤ k) ∧ Aside0 (Kd.R Kd.string 9 w' w.heap.size (fun _ => True) v185 y184) ∧ Aside0 (Kd.R (Kd.int .i64) 102 w' w.heap.size (fun _ => True) (.slice Ao6 y187.length co6) y187) ∧ Aside0 (Below w.heap.size w w'))
  case atStart => exact ⟨(0), (by first | rfl | (simp; done) | (simp [*]; done)), H', ⟨Nat.le_refl _⟩, ⟨by (with_reducible repeat (first | apply Kd.R_alloc | apply Kd.R_drewN | apply Kd.R_drew)); exact HO186.out⟩, ⟨by (with_reducible repeat (first | apply Kd.R_alloc | apply Kd.R_drewN | apply Kd.R_drew)); exact HO189.out⟩, ⟨by repeat (first | (with_reducible first | exact HB.out | apply below_alloc | apply pw_below_drewN | apply below_drew1) | exact HB.out)⟩⟩
  case round =>
    clear H'
    try clear c2
    try clear p2
    obtain ⟨x11_1, rfl, HA, HK1, HO_3, HO_9, HB⟩ := hrel
    cases gk with
    | zero => exact absurd HA.out (by simp [kauditref37_ErrorName.l0])
    | succ k1 =>
      have H := HA.out
      clear HA
      simp only [kauditref37_ErrorName.l0] at H
      by_cases c7 : x11_1 < (y187.length : Int)
      · rw [if_pos c7] at H
        have c7b0 : decide (x11_1 < (y187.length : Int)) = true := decide_eq_true c7
        clear c7
        by_cases c8 : 0 ≤ x11_1
        · rw [if_pos c8] at H
          have c8b0 : decide (0 ≤ x11_1) = true := decide_eq_true c8
          clear c8
          by_cases c9 : x11_1 < (y187.length : Int)
          · rw [if_pos c9] at H
            have c9b0 : decide (x11_1 < (y187.length : Int)) = true := decide_eq_true c9
            clear c9
            by_cases c10 : (rd y187 x11_1) = a0
            · rw [if_pos c10] at H
              have c10b0 : ((rd y187 x11_1) == a0) = true := beq_iff_eq.mpr c10
              have c10b1 : ((rd y187 x11_1) != a0) = false := bne_eq_false_iff_eq.mpr c10
              clear c10
              by_cases c11 : x11_1 < (y184.length : Int)
              · rw [if_pos c11] at H
                have c11b0 : decide (x11_1 < (y184.length : Int)) = true := decide_eq_true c11
                clear c11
                obtain rfl := Option.some.inj H
                have p190 : 0 ≤ (x11_1 : Int) := of_decide_eq_true (by first | (with_reducible assumption) | assumption)
                have q190 : x11_1 < (y187.length : Int) := of_decide_eq_true (by first | (with_reducible assumption) | assumption)
                obtain ⟨ad190, e190, hx190_0⟩ := Kd.at_int (Kd.R_reads' HO_9.out).2.2 x11_1 p190 q190
                cases e190
                replace p190 := eq_true p190
                replace q190 := eq_true q190
                obtain ⟨Ao12, co12, eo12⟩ := Kd.R_slice HO_3.out
                subst eo12
                have p191 : 0 ≤ (x11_1 : Int) := of_decide_eq_true (by first | (with_reducible assumption) | assumption)
                have q191 : x11_1 < (y184.length : Int) := of_decide_eq_true (by first | (with_reducible assumption) | assumption)
                obtain ⟨ad191, e191, hx191_0⟩ := Kd.at_string (Kd.R_reads' HO_3.out).2.2 x11_1 p191 q191
                cases e191
                replace p191 := eq_true p191
                replace q191 := eq_true q191
                go_wp2
                go_ret
                exact ⟨by first | rfl | (simp [errW_none, errW_some] <;> rfl) | (simp [*, errW_none, errW_some] <;> rfl) | (simp only [isEmpty_ne_, isEmpty_eq_]; rfl) | (simp [*, isEmpty_ne_, isEmpty_eq_]; done), by repeat (first | (with_reducible first | exact HB.out | apply below_alloc | apply pw_below_drewN | apply below_drew1) | exact HB.out)⟩
              · rw [if_neg c11] at H
                exact absurd H (by simp)
            · rw [if_neg c10] at H
              have c10b0 : ((rd y187 x11_1) == a0) = false := beq_eq_false_iff_ne.mpr c10
              have c10b1 : ((rd y187 x11_1) != a0) = true := bne_iff_ne.mpr c10
              have H' := Aside0.mk H
              clear H
              have p190 : 0 ≤ (x11_1 : Int) := of_decide_eq_true (by first | (with_reducible assumption) | assumption)
              have q190 : x11_1 < (y187.length : Int) := of_decide_eq_true (by first | (with_reducible assumption) | assumption)
              obtain ⟨ad190, e190, hx190_0⟩ := Kd.at_int (Kd.R_reads' HO_9.out).2.2 x11_1 p190 q190
              cases e190
              replace p190 := eq_true p190
              replace q190 := eq_true q190
              go_wp2
              go_roundg k1
              case measure => have := HK1.out; omega
              case rel => exact ⟨(wrap64 (x11_1 + 1)), (by first | rfl | (simp; done) | (simp [*]; done)), H', ⟨by have := HK1.out; omega⟩, ⟨by (with_reducible repeat (first | apply Kd.R_alloc | apply Kd.R_drewN | apply Kd.R_drew)); exact HO_3.out⟩, ⟨by (with_reducible repeat (first | apply Kd.R_alloc | apply Kd.R_drewN | apply Kd.R_drew)); exact HO_9.out⟩, ⟨by repeat (first | (with_reducible first | exact HB.out | apply below_alloc | apply pw_below_drewN | apply below_drew1) | exact HB.out)⟩⟩
          · rw [if_neg c9] at H
            exact absurd H (by simp)
        · rw [if_neg c8] at H
          exact absurd H (by simp)
      · rw [if_neg c7] at H
        have c7b0 : decide (x11_1 < (y187.length : Int)) = false := decide_eq_false c7
        clear c7
        obtain rfl := Option.some.inj H
        go_wp2
        go_ret
        exact ⟨by first | rfl | (simp [errW_none, errW_some] <;> rfl) | (simp [*, errW_none, errW_some] <;> rfl) | (simp only [isEmpty_ne_, isEmpty_eq_]; rfl) | (simp [*, isEmpty_ne_, isEmpty_eq_]; done), by repeat (first | (with_reducible first | exact HB.out | apply below_alloc | apply pw_below_drewN | apply below_drew1) | exact HB.out)⟩

/-! ### kauditref37_Name: function 110 -/
def kauditref37_Name.l0 : Nat → Int → Int → Int → ByteArray → List (S47) → Int → Int → Option (ByteArray × Bool)
  | 0, _, _, _, _, _, _, _ => none
  | k + 1, x1, x2, x3, x10, x13, x14, x15 => if x15 < x14 then (if 0 ≤ x15 then (if x15 < (x13.length : Int) then (if ((rd_T47 x13 x15).f1) = x1 then (if ((rd_T47 x13 x15).f2) = x2 then (if ((rd_T47 x13 x15).f0) ≤ x3 then (kauditref37_Name.l0 k x1 x2 x3 ((rd_T47 x13 x15).f3) x13 x14 (wrap64 (x15 + 1))) else (kauditref37_Name.l0 k x1 x2 x3 x10 x13 x14 (wrap64 (x15 + 1)))) else (kauditref37_Name.l0 k x1 x2 x3 x10 x13 x14 (wrap64 (x15 + 1)))) else (kauditref37_Name.l0 k x1 x2 x3 x10 x13 x14 (wrap64 (x15 + 1)))) else (none)) else (none)) else (some (x10, (x10.toList != ([] : List UInt8))))
def kauditref37_Name.f (k : Nat) (l0 : List (S47)) (a1 : Int) (a2 : Int) (a3 : Int) : Option (ByteArray × Bool) := kauditref37_Name.l0 k a1 a2 a3 (⟨#[]⟩ : ByteArray) l0 (l0.length : Int) 0
theorem kauditref37_Name.mono_l : ∀ k, (∀ y0 y1 y2 y3 y4 y5 y6, LeO (kauditref37_Name.l0 k y0 y1 y2 y3 y4 y5 y6) (kauditref37_Name.l0 (k + 1) y0 y1 y2 y3 y4 y5 y6))
  | 0 => fun _ _ _ _ _ _ _ r h => by simp [kauditref37_Name.l0] at h
  | k + 1 => by
    have ih0 := kauditref37_Name.mono_l k
    · intro y0 y1 y2 y3 y4 y5 y6
      unfold kauditref37_Name.l0
      repeat' first
      | (with_reducible exact ih0 _ _ _ _ _ _ _)
      | (with_reducible exact LeO.refl _)
      | (with_reducible exact LeO.none _)
      | (with_reducible refine LeO.ite ?_ ?_)
      | (with_reducible refine LeO.bind ?_ (fun _ => ?_))
      | exact ih0 _ _ _ _ _ _ _
      | exact LeO.none _
      | refine LeO.ite ?_ ?_
      | refine LeO.bind ?_ (fun _ => ?_)
theorem kauditref37_Name.mono : ∀ a0 a1 a2 a3 k, LeO (kauditref37_Name.f k a0 a1 a2 a3) (kauditref37_Name.f (k + 1) a0 a1 a2 a3) := by
  intro a0 a1 a2 a3 k
  have ih0 := kauditref37_Name.mono_l k
  unfold kauditref37_Name.f
  repeat' first
      | (with_reducible exact ih0 _ _ _ _ _ _ _)
      | (with_reducible exact LeO.refl _)
      | (with_reducible exact LeO.none _)
      | (with_reducible refine LeO.ite ?_ ?_)
      | (with_reducible refine LeO.bind ?_ (fun _ => ?_))
      | exact ih0 _ _ _ _ _ _ _
      | exact LeO.none _
      | refine LeO.ite ?_ ?_
      | refine LeO.bind ?_ (fun _ => ?_)
set_option maxHeartbeats 8000000 in
set_option maxRecDepth 100000 in
theorem kauditref37_Name.calls (k : Nat) (A0 : Option Addr) (c0 : Nat) (l0 : List (S47)) (a1 : Int) (a2 : Int) (a3 : Int) (r1 : ByteArray) (r2 : Bool) (w : World) (hr0 : Kd.C k47 w A0 l0.length l0) (hc0 : l0.length ≤ c0) (h : kauditref37_Name.f k l0 a1 a2 a3 = some (r1, r2)) :
    Calls Tryd.prog 110 #[.slice A0 l0.length c0, .int .i64 a1, .int .i64 a2, .int .i64 a3] w fun e w' => e = .returned (.tuple #[.string r1, .bool r2]) ∧ Below w.heap.size w w' := by
  have hu47 := Tryd.underlying47
  have HR0 := Aside0.mk hr0
  have HC0 := Aside0.mk hc0
  clear hr0 hc0
  have HB := Aside0.mk (Below.refl w.heap.size w)
  have H : (kauditref37_Name.l0 k a1 a2 a3 (⟨#[]⟩ : ByteArray) l0 (l0.length : Int) 0) = some (r1, r2) := h
  clear h
  have H' := Aside0.mk H
  clear H
  go_enter Tryd.func110, Tryd.ntmps110
  go_wp2
  go_loopg [10, 15] k (fun kq v10 v15 w' => ∃ (x10_1 : ByteArray) (x15_1 : Int), v10 = .string x10_1 ∧ v15 = .int .i64 x15_1 ∧ Aside0 (kauditref37_Name.l0 kq a1 a2 a3 x10_1 l0 (l0.length : Int) x15_1 = some (r1, r2)) ∧ Aside0 (kq ≤ k) ∧ Aside0 (Below w.heap.size w w'))
  case atStart => exact ⟨((⟨#[]⟩ : ByteArray)), (0), (by first | rfl | (simp; done) | (simp [*]; done)), (by first | rfl | (simp; done) | (simp [*]; done)), H', ⟨Nat.le_refl _⟩, ⟨by repeat (first | (with_reducible first | exact HB.out | apply below_alloc | apply pw_below_drewN | apply below_drew1) | exact HB.out)⟩⟩
  case round =>
    clear H'
    try clear c1
    try clear p2
    obtain ⟨x10_1, x15_1, rfl, rfl, HA, HK1, HB⟩ := hrel
    cases gk with
    | zero => exact absurd HA.out (by simp [kauditref37_Name.l0])
    | succ k1 =>
      have H := HA.out
      clear HA
      simp only [kauditref37_Name.l0] at H
      by_cases c5 : x15_1 < (l0.length : Int)
      · rw [if_pos c5] at H
        have c5b0 : decide (x15_1 < (l0.length : Int)) = true := decide_eq_true c5
        clear c5
        by_cases c6 : 0 ≤ x15_1
        · rw [if_pos c6] at H
          have c6b0 : decide (0 ≤ x15_1) = true := decide_eq_true c6
          clear c6
          by_cases c7 : x15_1 < (l0.length : Int)
          · rw [if_pos c7] at H
            have c7b0 : decide (x15_1 < (l0.length : Int)) = true := decide_eq_true c7
            clear c7
            by_cases c8 : ((rd_T47 l0 x15_1).f1) = a1
            · rw [if_pos c8] at H
              have c8b0 : (((rd_T47 l0 x15_1).f1) == a1) = true := beq_iff_eq.mpr c8
              have c8b1 : (((rd_T47 l0 x15_1).f1) != a1) = false := bne_eq_false_iff_eq.mpr c8
              clear c8
              by_cases c9 : ((rd_T47 l0 x15_1).f2) = a2
              · rw [if_pos c9] at H
                have c9b0 : (((rd_T47 l0 x15_1).f2) == a2) = true := beq_iff_eq.mpr c9
                have c9b1 : (((rd_T47 l0 x15_1).f2) != a2) = false := bne_eq_false_iff_eq.mpr c9
                clear c9
                by_cases c10 : ((rd_T47 l0 x15_1).f0) ≤ a3
                · rw [if_pos c10] at H
                  have c10b0 : decide (((rd_T47 l0 x15_1).f0) ≤ a3) = true := decide_eq_true c10
                  clear c10
                  have H' := Aside0.mk H
                  clear H
                  have p192 : 0 ≤ (x15_1 : Int) := of_decide_eq_true (by first | (with_reducible assumption) | assumption)
                  have q192 : x15_1 < (l0.length : Int) := of_decide_eq_true (by first | (with_reducible assumption) | assumption)
                  obtain ⟨ad192, e192, hx192_0, hx192_1, hx192_2, hx192_3⟩ := at_T47 HR0.out x15_1 p192 q192
                  cases e192
                  replace hx192_0 := (HB.out.cell (World.block_lt_of_cell? w _ hx192_0)).trans hx192_0
                  replace hx192_1 := (HB.out.cell (World.block_lt_of_cell? w _ hx192_1)).trans hx192_1
                  replace hx192_2 := (HB.out.cell (World.block_lt_of_cell? w _ hx192_2)).trans hx192_2
                  replace hx192_3 := (HB.out.cell (World.block_lt_of_cell? w _ hx192_3)).trans hx192_3
                  replace p192 := eq_true p192
                  replace q192 := eq_true q192
                  go_wp2_with (first | ((with_reducible refine gate_dst (N := 12) rfl ?_); refine box_event ?hg (N := 12) ?hd (cs := #[.int .i64 0, .int .i64 0, .int .i64 0, .string (⟨#[]⟩ : ByteArray)]) (t := 47) ?hr ?_; (case hd => rfl); (case hg => rfl); (case hr => first | (go_simp; done) | (go_simp; rfl)); intro gb193 hg w11 hbox hb; have n0_ := Aside0.mk (below_step (by repeat (first | (with_reducible first | exact HB.out | apply below_alloc | apply pw_below_drewN | apply below_drew1) | exact HB.out)) hb); have n1_ := Aside0.mk (hbox); have n2_ := Aside0.mk ((by rw [hg]; exact (below_size (by repeat (first | (with_reducible first | exact HB.out | apply below_alloc | apply pw_below_drewN | apply below_drew1) | exact HB.out))) : w.heap.size ≤ gb193)); have n3_ := Aside0.mk ((by rw [hg]; exact (below_size (by repeat (first | (with_reducible first | exact HB.out | apply below_alloc | apply pw_below_drewN | apply below_drew1) | exact HB.out))) : w.heap.size ≤ gb193)); clear HB; have HB := n0_; have BK193 := n1_; have GW193 := n2_; have GE193 := n3_; clear n0_ n1_ n2_ n3_; clear hb hbox hg; have hcz12_0 : w11.cell? ⟨gb193, 0, none⟩ = some (.int .i64 0) := (blk_cell BK193.out 0).trans rfl; have hcz12_1 : w11.cell? ⟨gb193, 1, none⟩ = some (.int .i64 0) := (blk_cell BK193.out 1).trans rfl; have hcz12_2 : w11.cell? ⟨gb193, 2, none⟩ = some (.int .i64 0) := (blk_cell BK193.out 2).trans rfl; have hcz12_3 : w11.cell? ⟨gb193, 3, none⟩ = some (.string (⟨#[]⟩ : ByteArray)) := (blk_cell BK193.out 3).trans rfl; have hfz12_0 := blk_frozen BK193.out 0; have hfz12_1 := blk_frozen BK193.out 1; have hfz12_2 := blk_frozen BK193.out 2; have hfz12_3 := blk_frozen BK193.out 3))
                  go_roundg k1
                  case measure => have := HK1.out; omega
                  case rel => exact ⟨((rd_T47 l0 x15_1).f3), (wrap64 (x15_1 + 1)), (by first | rfl | (simp; done) | (simp [*]; done)), (by first | rfl | (simp; done) | (simp [*]; done)), H', ⟨by have := HK1.out; omega⟩, ⟨by repeat (first | (with_reducible first | exact HB.out | apply below_alloc | apply pw_below_drewN | apply below_drew1 | refine below_set ?_ GE193.out) | exact HB.out)⟩⟩
                · rw [if_neg c10] at H
                  have c10b0 : decide (((rd_T47 l0 x15_1).f0) ≤ a3) = false := decide_eq_false c10
                  clear c10
                  have H' := Aside0.mk H
                  clear H
                  have p192 : 0 ≤ (x15_1 : Int) := of_decide_eq_true (by first | (with_reducible assumption) | assumption)
                  have q192 : x15_1 < (l0.length : Int) := of_decide_eq_true (by first | (with_reducible assumption) | assumption)
                  obtain ⟨ad192, e192, hx192_0, hx192_1, hx192_2, hx192_3⟩ := at_T47 HR0.out x15_1 p192 q192
                  cases e192
                  replace hx192_0 := (HB.out.cell (World.block_lt_of_cell? w _ hx192_0)).trans hx192_0
                  replace hx192_1 := (HB.out.cell (World.block_lt_of_cell? w _ hx192_1)).trans hx192_1
                  replace hx192_2 := (HB.out.cell (World.block_lt_of_cell? w _ hx192_2)).trans hx192_2
                  replace hx192_3 := (HB.out.cell (World.block_lt_of_cell? w _ hx192_3)).trans hx192_3
                  replace p192 := eq_true p192
                  replace q192 := eq_true q192
                  go_wp2_with (first | ((with_reducible refine gate_dst (N := 12) rfl ?_); refine box_event ?hg (N := 12) ?hd (cs := #[.int .i64 0, .int .i64 0, .int .i64 0, .string (⟨#[]⟩ : ByteArray)]) (t := 47) ?hr ?_; (case hd => rfl); (case hg => rfl); (case hr => first | (go_simp; done) | (go_simp; rfl)); intro gb193 hg w13 hbox hb; have n0_ := Aside0.mk (below_step (by repeat (first | (with_reducible first | exact HB.out | apply below_alloc | apply pw_below_drewN | apply below_drew1) | exact HB.out)) hb); have n1_ := Aside0.mk (hbox); have n2_ := Aside0.mk ((by rw [hg]; exact (below_size (by repeat (first | (with_reducible first | exact HB.out | apply below_alloc | apply pw_below_drewN | apply below_drew1) | exact HB.out))) : w.heap.size ≤ gb193)); have n3_ := Aside0.mk ((by rw [hg]; exact (below_size (by repeat (first | (with_reducible first | exact HB.out | apply below_alloc | apply pw_below_drewN | apply below_drew1) | exact HB.out))) : w.heap.size ≤ gb193)); clear HB; have HB := n0_; have BK193 := n1_; have GW193 := n2_; have GE193 := n3_; clear n0_ n1_ n2_ n3_; clear hb hbox hg; have hcz14_0 : w13.cell? ⟨gb193, 0, none⟩ = some (.int .i64 0) := (blk_cell BK193.out 0).trans rfl; have hcz14_1 : w13.cell? ⟨gb193, 1, none⟩ = some (.int .i64 0) := (blk_cell BK193.out 1).trans rfl; have hcz14_2 : w13.cell? ⟨gb193, 2, none⟩ = some (.int .i64 0) := (blk_cell BK193.out 2).trans rfl; have hcz14_3 : w13.cell? ⟨gb193, 3, none⟩ = some (.string (⟨#[]⟩ : ByteArray)) := (blk_cell BK193.out 3).trans rfl; have hfz14_0 := blk_frozen BK193.out 0; have hfz14_1 := blk_frozen BK193.out 1; have hfz14_2 := blk_frozen BK193.out 2; have hfz14_3 := blk_frozen BK193.out 3))
                  go_roundg k1
                  case measure => have := HK1.out; omega
                  case rel => exact ⟨(x10_1), (wrap64 (x15_1 + 1)), (by first | rfl | (simp; done) | (simp [*]; done)), (by first | rfl | (simp; done) | (simp [*]; done)), H', ⟨by have := HK1.out; omega⟩, ⟨by repeat (first | (with_reducible first | exact HB.out | apply below_alloc | apply pw_below_drewN | apply below_drew1 | refine below_set ?_ GE193.out) | exact HB.out)⟩⟩
              · rw [if_neg c9] at H
                have c9b0 : (((rd_T47 l0 x15_1).f2) == a2) = false := beq_eq_false_iff_ne.mpr c9
                have c9b1 : (((rd_T47 l0 x15_1).f2) != a2) = true := bne_iff_ne.mpr c9
                have H' := Aside0.mk H
                clear H
                have p192 : 0 ≤ (x15_1 : Int) := of_decide_eq_true (by first | (with_reducible assumption) | assumption)
                have q192 : x15_1 < (l0.length : Int) := of_decide_eq_true (by first | (with_reducible assumption) | assumption)
                obtain ⟨ad192, e192, hx192_0, hx192_1, hx192_2, hx192_3⟩ := at_T47 HR0.out x15_1 p192 q192
                cases e192
                replace hx192_0 := (HB.out.cell (World.block_lt_of_cell? w _ hx192_0)).trans hx192_0
                replace hx192_1 := (HB.out.cell (World.block_lt_of_cell? w _ hx192_1)).trans hx192_1
                replace hx192_2 := (HB.out.cell (World.block_lt_of_cell? w _ hx192_2)).trans hx192_2
                replace hx192_3 := (HB.out.cell (World.block_lt_of_cell? w _ hx192_3)).trans hx192_3
                replace p192 := eq_true p192
                replace q192 := eq_true q192
                go_wp2_with (first | ((with_reducible refine gate_dst (N := 12) rfl ?_); refine box_event ?hg (N := 12) ?hd (cs := #[.int .i64 0, .int .i64 0, .int .i64 0, .string (⟨#[]⟩ : ByteArray)]) (t := 47) ?hr ?_; (case hd => rfl); (case hg => rfl); (case hr => first | (go_simp; done) | (go_simp; rfl)); intro gb193 hg w15 hbox hb; have n0_ := Aside0.mk (below_step (by repeat (first | (with_reducible first | exact HB.out | apply below_alloc | apply pw_below_drewN | apply below_drew1) | exact HB.out)) hb); have n1_ := Aside0.mk (hbox); have n2_ := Aside0.mk ((by rw [hg]; exact (below_size (by repeat (first | (with_reducible first | exact HB.out | apply below_alloc | apply pw_below_drewN | apply below_drew1) | exact HB.out))) : w.heap.size ≤ gb193)); have n3_ := Aside0.mk ((by rw [hg]; exact (below_size (by repeat (first | (with_reducible first | exact HB.out | apply below_alloc | apply pw_below_drewN | apply below_drew1) | exact HB.out))) : w.heap.size ≤ gb193)); clear HB; have HB := n0_; have BK193 := n1_; have GW193 := n2_; have GE193 := n3_; clear n0_ n1_ n2_ n3_; clear hb hbox hg; have hcz16_0 : w15.cell? ⟨gb193, 0, none⟩ = some (.int .i64 0) := (blk_cell BK193.out 0).trans rfl; have hcz16_1 : w15.cell? ⟨gb193, 1, none⟩ = some (.int .i64 0) := (blk_cell BK193.out 1).trans rfl; have hcz16_2 : w15.cell? ⟨gb193, 2, none⟩ = some (.int .i64 0) := (blk_cell BK193.out 2).trans rfl; have hcz16_3 : w15.cell? ⟨gb193, 3, none⟩ = some (.string (⟨#[]⟩ : ByteArray)) := (blk_cell BK193.out 3).trans rfl; have hfz16_0 := blk_frozen BK193.out 0; have hfz16_1 := blk_frozen BK193.out 1; have hfz16_2 := blk_frozen BK193.out 2; have hfz16_3 := blk_frozen BK193.out 3))
                go_roundg k1
                case measure => have := HK1.out; omega
                case rel => exact ⟨(x10_1), (wrap64 (x15_1 + 1)), (by first | rfl | (simp; done) | (simp [*]; done)), (by first | rfl | (simp; done) | (simp [*]; done)), H', ⟨by have := HK1.out; omega⟩, ⟨by repeat (first | (with_reducible first | exact HB.out | apply below_alloc | apply pw_below_drewN | apply below_drew1 | refine below_set ?_ GE193.out) | exact HB.out)⟩⟩
            · rw [if_neg c8] at H
              have c8b0 : (((rd_T47 l0 x15_1).f1) == a1) = false := beq_eq_false_iff_ne.mpr c8
              have c8b1 : (((rd_T47 l0 x15_1).f1) != a1) = true := bne_iff_ne.mpr c8
              have H' := Aside0.mk H
              clear H
              have p192 : 0 ≤ (x15_1 : Int) := of_decide_eq_true (by first | (with_reducible assumption) | assumption)
              have q192 : x15_1 < (l0.length : Int) := of_decide_eq_true (by first | (with_reducible assumption) | assumption)
              obtain ⟨ad192, e192, hx192_0, hx192_1, hx192_2, hx192_3⟩ := at_T47 HR0.out x15_1 p192 q192
              cases e192
              replace hx192_0 := (HB.out.cell (World.block_lt_of_cell? w _ hx192_0)).trans hx192_0
              replace hx192_1 := (HB.out.cell (World.block_lt_of_cell? w _ hx192_1)).trans hx192_1
              replace hx192_2 := (HB.out.cell (World.block_lt_of_cell? w _ hx192_2)).trans hx192_2
              replace hx192_3 := (HB.out.cell (World.block_lt_of_cell? w _ hx192_3)).trans hx192_3
              replace p192 := eq_true p192
              replace q192 := eq_true q192
              go_wp2_with (first | ((with_reducible refine gate_dst (N := 12) rfl ?_); refine box_event ?hg (N := 12) ?hd (cs := #[.int .i64 0, .int .i64 0, .int .i64 0, .string (⟨#[]⟩ : ByteArray)]) (t := 47) ?hr ?_; (case hd => rfl); (case hg => rfl); (case hr => first | (go_simp; done) | (go_simp; rfl)); intro gb193 hg w17 hbox hb; have n0_ := Aside0.mk (below_step (by repeat (first | (with_reducible first | exact HB.out | apply below_alloc | apply pw_below_drewN | apply below_drew1) | exact HB.out)) hb); have n1_ := Aside0.mk (hbox); have n2_ := Aside0.mk ((by rw [hg]; exact (below_size (by repeat (first | (with_reducible first | exact HB.out | apply below_alloc | apply pw_below_drewN | apply below_drew1) | exact HB.out))) : w.heap.size ≤ gb193)); have n3_ := Aside0.mk ((by rw [hg]; exact (below_size (by repeat (first | (with_reducible first | exact HB.out | apply below_alloc | apply pw_below_drewN | apply below_drew1) | exact HB.out))) : w.heap.size ≤ gb193)); clear HB; have HB := n0_; have BK193 := n1_; have GW193 := n2_; have GE193 := n3_; clear n0_ n1_ n2_ n3_; clear hb hbox hg; have hcz18_0 : w17.cell? ⟨gb193, 0, none⟩ = some (.int .i64 0) := (blk_cell BK193.out 0).trans rfl; have hcz18_1 : w17.cell? ⟨gb193, 1, none⟩ = some (.int .i64 0) := (blk_cell BK193.out 1).trans rfl; have hcz18_2 : w17.cell? ⟨gb193, 2, none⟩ = some (.int .i64 0) := (blk_cell BK193.out 2).trans rfl; have hcz18_3 : w17.cell? ⟨gb193, 3, none⟩ = some (.string (⟨#[]⟩ : ByteArray)) := (blk_cell BK193.out 3).trans rfl; have hfz18_0 := blk_frozen BK193.out 0; have hfz18_1 := blk_frozen BK193.out 1; have hfz18_2 := blk_frozen BK193.out 2; have hfz18_3 := blk_frozen BK193.out 3))
              go_roundg k1
              case measure => have := HK1.out; omega
              case rel => exact ⟨(x10_1), (wrap64 (x15_1 + 1)), (by first | rfl | (simp; done) | (simp [*]; done)), (by first | rfl | (simp; done) | (simp [*]; done)), H', ⟨by have := HK1.out; omega⟩, ⟨by repeat (first | (with_reducible first | exact HB.out | apply below_alloc | apply pw_below_drewN | apply below_drew1 | refine below_set ?_ GE193.out) | exact HB.out)⟩⟩
          · rw [if_neg c7] at H
            exact absurd H (by simp)
        · rw [if_neg c6] at H
          exact absurd H (by simp)
      · rw [if_neg c5] at H
        have c5b0 : decide (x15_1 < (l0.length : Int)) = false := decide_eq_false c5
        clear c5
        simp only [Option.some.injEq, Prod.mk.injEq] at H
        obtain ⟨rfl, rfl⟩ := H
        go_wp2
        go_ret2
        exact ⟨by first | rfl | (simp [errW_none, errW_some] <;> rfl) | (simp [*, errW_none, errW_some] <;> rfl) | (simp only [isEmpty_ne_, isEmpty_eq_]; rfl) | (simp [*, isEmpty_ne_, isEmpty_eq_]; done), by repeat (first | (with_reducible first | exact HB.out | apply below_alloc | apply pw_below_drewN | apply below_drew1) | exact HB.out)⟩

/-! ### kauditref08_Format: function 111 -/
mutual
def kauditref08_Format.j0 : Nat → Int → Bool → Option (ByteArray)
  | 0, _, _ => none
  | k + 1, x0, x10 => if x10 = true then (some (⟨#[]⟩ : ByteArray)) else (kauditref08_Format.l0 k x0 (⟨#[]⟩ : ByteArray) 0)
def kauditref08_Format.l0 : Nat → Int → ByteArray → Int → Option (ByteArray)
  | 0, _, _, _ => none
  | k + 1, x0, x3, x4 => if x4 < 9 then (if 0 ≤ (IntKind.u64.wrap (wrap64 (8 - x4))) then (if (Go.bits .and .i64 (shr .i64 x0 (IntKind.u64.wrap (wrap64 (8 - x4)))) 1) = 1 then (if 0 ≤ x4 then (if x4 ≤ (wrap64 (x4 + 1)) then (if (wrap64 (x4 + 1)) ≤ 9 then (if x3.size + ((⟨#[114, 119, 120, 114, 119, 120, 114, 119, 120]⟩ : ByteArray).extract (x4 : Int).toNat ((wrap64 (x4 + 1)) : Int).toNat).size ≤ 9223372036854775807 then (kauditref08_Format.l0 k x0 (x3 ++ ((⟨#[114, 119, 120, 114, 119, 120, 114, 119, 120]⟩ : ByteArray).extract (x4 : Int).toNat ((wrap64 (x4 + 1)) : Int).toNat)) (wrap64 (x4 + 1))) else (none)) else (none)) else (none)) else (none)) else (if x3.size + 1 ≤ 9223372036854775807 then (kauditref08_Format.l0 k x0 (x3 ++ (⟨#[45]⟩ : ByteArray)) (wrap64 (x4 + 1))) else (none))) else (none)) else (some x3)
end
def kauditref08_Format.f (k : Nat) (a0 : Int) : Option (ByteArray) := if a0 < 0 then (kauditref08_Format.j0 k a0 true) else (kauditref08_Format.j0 k a0 (decide (a0 > 511)))
theorem kauditref08_Format.mono_l : ∀ k, (∀ y0 y1, LeO (kauditref08_Format.j0 k y0 y1) (kauditref08_Format.j0 (k + 1) y0 y1)) ∧ (∀ y0 y1 y2, LeO (kauditref08_Format.l0 k y0 y1 y2) (kauditref08_Format.l0 (k + 1) y0 y1 y2))
  | 0 => ⟨fun _ _ r h => by simp [kauditref08_Format.j0] at h, fun _ _ _ r h => by simp [kauditref08_Format.l0] at h⟩
  | k + 1 => by
    obtain ⟨ih0, ih1⟩ := kauditref08_Format.mono_l k
    refine ⟨?_, ?_⟩
    · intro y0 y1
      unfold kauditref08_Format.j0
      repeat' first
      | (with_reducible exact ih0 _ _)
      | (with_reducible exact ih1 _ _ _)
      | (with_reducible exact LeO.refl _)
      | (with_reducible exact LeO.none _)
      | (with_reducible refine LeO.ite ?_ ?_)
      | (with_reducible refine LeO.bind ?_ (fun _ => ?_))
      | exact ih0 _ _
      | exact ih1 _ _ _
      | exact LeO.none _
      | refine LeO.ite ?_ ?_
      | refine LeO.bind ?_ (fun _ => ?_)
    · intro y0 y1 y2
      unfold kauditref08_Format.l0
      repeat' first
      | (with_reducible exact ih0 _ _)
      | (with_reducible exact ih1 _ _ _)
      | (with_reducible exact LeO.refl _)
      | (with_reducible exact LeO.none _)
      | (with_reducible refine LeO.ite ?_ ?_)
      | (with_reducible refine LeO.bind ?_ (fun _ => ?_))
      | exact ih0 _ _
      | exact ih1 _ _ _
      | exact LeO.none _
      | refine LeO.ite ?_ ?_
      | refine LeO.bind ?_ (fun _ => ?_)
theorem kauditref08_Format.mono : ∀ a0 k, LeO (kauditref08_Format.f k a0) (kauditref08_Format.f (k + 1) a0) := by
  intro a0 k
  obtain ⟨ih0, ih1⟩ := kauditref08_Format.mono_l k
  unfold kauditref08_Format.f
  repeat' first
      | (with_reducible exact ih0 _ _)
      | (with_reducible exact ih1 _ _ _)
      | (with_reducible exact LeO.refl _)
      | (with_reducible exact LeO.none _)
      | (with_reducible refine LeO.ite ?_ ?_)
      | (with_reducible refine LeO.bind ?_ (fun _ => ?_))
      | exact ih0 _ _
      | exact ih1 _ _ _
      | exact LeO.none _
      | refine LeO.ite ?_ ?_
      | refine LeO.bind ?_ (fun _ => ?_)
set_option maxHeartbeats 8000000 in
set_option maxRecDepth 100000 in
theorem kauditref08_Format.calls (k : Nat) (a0 : Int) (r : ByteArray) (w : World) (h : kauditref08_Format.f k a0 = some r) :
    Calls Tryd.prog 111 #[.int .i64 a0] w fun e w' => e = .returned (.string r) ∧ Drawn0 w w' := by
  have H : (if a0 < 0 then (kauditref08_Format.j0 k a0 true) else (kauditref08_Format.j0 k a0 (decide (a0 > 511)))) = some r := h
  clear h
  have HC2 := Aside0.mk H
  clear H
  go_enter Tryd.func111, Tryd.ntmps111
  go_upto_region 1 with (fail)
  go_cut [10] (fun v10 wc => ∃ (kq : Nat) (x10_1 : Bool), v10 = .bool x10_1 ∧ Aside0 (kauditref08_Format.j0 kq a0 x10_1 = some r) ∧ Aside0 (kq ≤ k) ∧ Drawn0 w wc)
  case first =>
    have H := HC2.out
    clear HC2
    by_cases c3 : a0 < 0
    · rw [if_pos c3] at H
      have c3b0 : decide (a0 < 0) = true := decide_eq_true c3
      clear c3
      (first | rw [c3b0] | (simp only [i64_w, i32_w]; rw [c3b0]) | skip)
      have H' := Aside0.mk H
      clear H
      go_wp2
      go_meet
      case rel => exact ⟨_, (true), (by first | rfl | (simp; done) | (simp [*]; done)), H', ⟨by first | omega | exact Nat.le_refl _⟩, by repeat (first | exact Drawn0.refl _ | apply Drawn0.step)⟩
    · rw [if_neg c3] at H
      have c3b0 : decide (a0 < 0) = false := decide_eq_false c3
      clear c3
      (first | rw [c3b0] | (simp only [i64_w, i32_w]; rw [c3b0]) | skip)
      have H' := Aside0.mk H
      clear H
      go_wp2
      go_meet
      case rel => exact ⟨_, (decide (a0 > 511)), (by first | rfl | (simp; done) | (simp [*]; done)), H', ⟨by first | omega | exact Nat.le_refl _⟩, by repeat (first | exact Drawn0.refl _ | apply Drawn0.step)⟩
  case rest =>
    clear HC2
    try clear c1
    try clear p2
    try clear c3
    try clear c3b0
    obtain ⟨kq, x10_1, rfl, HA, HJ1, ⟨mc1, rfl⟩⟩ := hcut
    cases kq with
    | zero => exact absurd HA.out (by simp [kauditref08_Format.j0])
    | succ kj1 =>
      have H := HA.out
      clear HA
      simp only [kauditref08_Format.j0] at H
      by_cases c4 : x10_1 = true
      · subst c4
        have H1 : (some (⟨#[]⟩ : ByteArray)) = some r := by rw [if_pos rfl] at H; exact H
        clear H
        have H := H1
        clear H1
        obtain rfl := Option.some.inj H
        go_wp2
        go_ret
        exact ⟨by first | rfl | (simp; done) | (simp [*]; done), by repeat (first | exact Drawn0.refl _ | apply Drawn0.step)⟩
      · replace c4 := Bool.eq_false_iff.mpr c4
        subst c4
        have H1 : (kauditref08_Format.l0 kj1 a0 (⟨#[]⟩ : ByteArray) 0) = some r := by rw [if_neg (show ¬ (false = true) by decide)] at H; exact H
        clear H
        have H := H1
        clear H1
        have H' := Aside0.mk H
        clear H
        go_wp2
        go_loopg [3, 4] kj1 (fun kq v3 v4 w' => ∃ (x3_2 : ByteArray) (x4_2 : Int), v3 = .string x3_2 ∧ v4 = .int .i64 x4_2 ∧ Aside0 (kauditref08_Format.l0 kq a0 x3_2 x4_2 = some r) ∧ Aside0 (kq ≤ kj1) ∧ Drawn0 w w')
        case atStart => exact ⟨((⟨#[]⟩ : ByteArray)), (0), (by first | rfl | (simp; done) | (simp [*]; done)), (by first | rfl | (simp; done) | (simp [*]; done)), H', ⟨Nat.le_refl _⟩, by repeat (first | exact Drawn0.refl _ | apply Drawn0.step)⟩
        case round =>
          clear H'
          try clear c1
          try clear p2
          try clear c3
          try clear c3b0
          try clear c4
          try clear p2
          obtain ⟨x3_2, x4_2, rfl, rfl, HA, HK2, ⟨m2, rfl⟩⟩ := hrel
          cases gk with
          | zero => exact absurd HA.out (by simp [kauditref08_Format.l0])
          | succ k2 =>
            have H := HA.out
            clear HA
            simp only [kauditref08_Format.l0] at H
            by_cases c5 : x4_2 < 9
            · rw [if_pos c5] at H
              have c5b0 : decide (x4_2 < 9) = true := decide_eq_true c5
              clear c5
              obtain ⟨ji6, hji6⟩ : ∃ j_ : Int, (IntKind.u64.wrap (wrap64 (8 - x4_2))) = j_ := ⟨_, rfl⟩
              replace H : (if 0 ≤ (ji6) then (if (Go.bits .and .i64 (shr .i64 a0 (ji6)) 1) = 1 then (if 0 ≤ x4_2 then (if x4_2 ≤ (wrap64 (x4_2 + 1)) then (if (wrap64 (x4_2 + 1)) ≤ 9 then (if x3_2.size + ((⟨#[114, 119, 120, 114, 119, 120, 114, 119, 120]⟩ : ByteArray).extract (x4_2 : Int).toNat ((wrap64 (x4_2 + 1)) : Int).toNat).size ≤ 9223372036854775807 then (kauditref08_Format.l0 k2 a0 (x3_2 ++ ((⟨#[114, 119, 120, 114, 119, 120, 114, 119, 120]⟩ : ByteArray).extract (x4_2 : Int).toNat ((wrap64 (x4_2 + 1)) : Int).toNat)) (wrap64 (x4_2 + 1))) else (none)) else (none)) else (none)) else (none)) else (if x3_2.size + 1 ≤ 9223372036854775807 then (kauditref08_Format.l0 k2 a0 (x3_2 ++ (⟨#[45]⟩ : ByteArray)) (wrap64 (x4_2 + 1))) else (none))) else (none)) = some r := by first | (rw [hji6] at H; exact H) | (simp only [hji6] at H ⊢; exact H)
              by_cases c7 : 0 ≤ (ji6)
              · rw [if_pos c7] at H
                have c7b0 := eq_true c7
                have c7b1 : decide (0 ≤ (ji6)) = true := decide_eq_true c7
                clear c7
                obtain ⟨ji8, hji8⟩ : ∃ j_ : Int, (shr .i64 a0 (ji6)) = j_ := ⟨_, rfl⟩
                replace H : (if (Go.bits .and .i64 (ji8) 1) = 1 then (if 0 ≤ x4_2 then (if x4_2 ≤ (wrap64 (x4_2 + 1)) then (if (wrap64 (x4_2 + 1)) ≤ 9 then (if x3_2.size + ((⟨#[114, 119, 120, 114, 119, 120, 114, 119, 120]⟩ : ByteArray).extract (x4_2 : Int).toNat ((wrap64 (x4_2 + 1)) : Int).toNat).size ≤ 9223372036854775807 then (kauditref08_Format.l0 k2 a0 (x3_2 ++ ((⟨#[114, 119, 120, 114, 119, 120, 114, 119, 120]⟩ : ByteArray).extract (x4_2 : Int).toNat ((wrap64 (x4_2 + 1)) : Int).toNat)) (wrap64 (x4_2 + 1))) else (none)) else (none)) else (none)) else (none)) else (if x3_2.size + 1 ≤ 9223372036854775807 then (kauditref08_Format.l0 k2 a0 (x3_2 ++ (⟨#[45]⟩ : ByteArray)) (wrap64 (x4_2 + 1))) else (none))) = some r := by first | (rw [hji8] at H; exact H) | (simp only [hji8] at H ⊢; exact H)
                have hji8_ : (a0 / 2 ^ min (ji6).toNat 64) = ji8 := hji8
                have hji8z : (ji6) ≤ 64 → (a0 / 2 ^ (ji6).toNat) = ji8 := shr_small hji8
                by_cases c9 : (Go.bits .and .i64 (ji8) 1) = 1
                · rw [if_pos c9] at H
                  have c9b0 : ((Go.bits .and .i64 (ji8) 1) == 1) = true := beq_iff_eq.mpr c9
                  have c9b1 : ((Go.bits .and .i64 (ji8) 1) != 1) = false := bne_eq_false_iff_eq.mpr c9
                  clear c9
                  by_cases c10 : 0 ≤ x4_2
                  · rw [if_pos c10] at H
                    have c10b0 := eq_true c10
                    have c10b1 : decide (0 ≤ x4_2) = true := decide_eq_true c10
                    clear c10
                    by_cases c11 : x4_2 ≤ (wrap64 (x4_2 + 1))
                    · rw [if_pos c11] at H
                      have c11b0 := eq_true c11
                      have c11b1 : decide (x4_2 ≤ (wrap64 (x4_2 + 1))) = true := decide_eq_true c11
                      by_cases c12 : (wrap64 (x4_2 + 1)) ≤ 9
                      · rw [if_pos c12] at H
                        have c12b0 := eq_true c12
                        have c12b1 : decide ((wrap64 (x4_2 + 1)) ≤ 9) = true := decide_eq_true c12
                        by_cases c13 : x3_2.size + ((⟨#[114, 119, 120, 114, 119, 120, 114, 119, 120]⟩ : ByteArray).extract (x4_2 : Int).toNat ((wrap64 (x4_2 + 1)) : Int).toNat).size ≤ 9223372036854775807
                        · rw [if_pos c13] at H
                          have c13b0 := eq_true c13
                          have c13b1 : decide (x3_2.size + ((⟨#[114, 119, 120, 114, 119, 120, 114, 119, 120]⟩ : ByteArray).extract (x4_2 : Int).toNat ((wrap64 (x4_2 + 1)) : Int).toNat).size ≤ 9223372036854775807) = true := decide_eq_true c13
                          try have c13b2 : (9223372036854775807 < x3_2.size + ((⟨#[114, 119, 120, 114, 119, 120, 114, 119, 120]⟩ : ByteArray).extract (x4_2 : Int).toNat ((wrap64 (x4_2 + 1)) : Int).toNat).size) = False := eq_false (Nat.not_lt.2 c13)
                          have H' := Aside0.mk H
                          clear H
                          go_wp2
                          go_roundg k2
                          case measure => have := HJ1.out; have := HK2.out; omega
                          case rel => exact ⟨(x3_2 ++ ((⟨#[114, 119, 120, 114, 119, 120, 114, 119, 120]⟩ : ByteArray).extract (x4_2 : Int).toNat ((wrap64 (x4_2 + 1)) : Int).toNat)), (wrap64 (x4_2 + 1)), (by first | rfl | (simp; done) | (simp [*]; done)), (by first | rfl | (simp; done) | (simp [*]; done)), (by first | exact H' | ((try subst hji6); (try subst hji8); exact H')), ⟨by have := HJ1.out; have := HK2.out; omega⟩, by repeat (first | exact Drawn0.refl _ | apply Drawn0.step)⟩
                        · rw [if_neg c13] at H
                          exact absurd H (by simp)
                      · rw [if_neg c12] at H
                        exact absurd H (by simp)
                    · rw [if_neg c11] at H
                      exact absurd H (by simp)
                  · rw [if_neg c10] at H
                    exact absurd H (by simp)
                · rw [if_neg c9] at H
                  have c9b0 : ((Go.bits .and .i64 (ji8) 1) == 1) = false := beq_eq_false_iff_ne.mpr c9
                  have c9b1 : ((Go.bits .and .i64 (ji8) 1) != 1) = true := bne_iff_ne.mpr c9
                  by_cases c14 : x3_2.size + 1 ≤ 9223372036854775807
                  · rw [if_pos c14] at H
                    have c14b0 := eq_true c14
                    have c14b1 : decide (x3_2.size + 1 ≤ 9223372036854775807) = true := decide_eq_true c14
                    try have c14b2 : (9223372036854775807 < x3_2.size + 1) = False := eq_false (Nat.not_lt.2 c14)
                    have H' := Aside0.mk H
                    clear H
                    go_wp2
                    go_roundg k2
                    case measure => have := HJ1.out; have := HK2.out; omega
                    case rel => exact ⟨(x3_2 ++ (⟨#[45]⟩ : ByteArray)), (wrap64 (x4_2 + 1)), (by first | rfl | (simp; done) | (simp [*]; done)), (by first | rfl | (simp; done) | (simp [*]; done)), (by first | exact H' | ((try subst hji6); (try subst hji8); exact H')), ⟨by have := HJ1.out; have := HK2.out; omega⟩, by repeat (first | exact Drawn0.refl _ | apply Drawn0.step)⟩
                  · rw [if_neg c14] at H
                    exact absurd H (by simp)
              · rw [if_neg c7] at H
                exact absurd H (by simp)
            · rw [if_neg c5] at H
              have c5b0 : decide (x4_2 < 9) = false := decide_eq_false c5
              clear c5
              obtain rfl := Option.some.inj H
              go_wp2
              go_ret
              exact ⟨by first | rfl | (simp; done) | (simp [*]; done), by repeat (first | exact Drawn0.refl _ | apply Drawn0.step)⟩

end Go.Proofs.YtjnlmmjadlidlaaDoor.PNames
