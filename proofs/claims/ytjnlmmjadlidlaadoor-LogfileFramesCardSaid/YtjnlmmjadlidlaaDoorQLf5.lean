/-
  A part of the proof of this: LogfileFrames holds for every input: frames and heads are the same bytes as the reference says, or the same error; no condition.
-/
import Derived.Deep.Slices
import Derived.Test.YtjnlmmjadlidlaaDoorRows
import Derived.LaidMore
import Derived.MakeChecks
import Derived.Stop.LaidErr
import Derived.Lib.LaidTab
import Derived.Deep.Strs
import Derived.Test.YtjnlmmjadlidlaaDoorQLf4
section
namespace Go.Proofs.YtjnlmmjadlidlaaDoor.PRec
open Go.RowKit Go.Proofs.YtjnlmmjadlidlaaDoorW.PrintWords Go.Proofs.YtjnlmmjadlidlaaDoorW.PrintLast Go.Proofs.YtjnlmmjadlidlaaDoorW.PrintMore
attribute [local go_sem] max2_int min2_int max_two min_two max_three min_three max_four min_four
set_option linter.unusedVariables false
set_option linter.unusedSimpArgs false
def kauditlaw25_begun.f (k : Nat)  : Option (Bool) := (logfile_Encode.f k 2 0 0 0 ([] : List (S50)) false 3 5 2 0 (⟨#[]⟩ : ByteArray) 0 0 ([] : List Int)).bind fun bt634 => ((logfile_Frame.f k 0 0 0 (([1] : List Int))).bind fun bt641 => (if bt634.2 = 0 then ((kauditref24_SameBytes.f bt634.1 (([2, 3, 5, 2, 0] : List Int))).bind fun t649 => (if t649 = true then (if bt641.2.2 = 0 then (if (bt641.1.length : Int) = 13 then (some (bt641.2.1 != 0)) else (some false)) else (some false)) else (some false))) else (some false)))
theorem kauditlaw25_begun.mono : ∀ k, LeO (kauditlaw25_begun.f k ) (kauditlaw25_begun.f (k + 1) ) := by
  intro  k
  unfold kauditlaw25_begun.f
  repeat' first
      | (with_reducible exact logfile_Encode.mono _ _ _ _ _ _ _ _ _ _ _ _ _ _ _)
      | (with_reducible exact logfile_Frame.mono _ _ _ _ _)
      | (with_reducible exact LeO.refl _)
      | (with_reducible exact LeO.none _)
      | (with_reducible refine LeO.ite ?_ ?_)
      | (with_reducible refine LeO.bind ?_ (fun _ => ?_))
      | exact logfile_Encode.mono _ _ _ _ _ _ _ _ _ _ _ _ _ _ _
      | exact logfile_Frame.mono _ _ _ _ _
      | exact LeO.none _
      | refine LeO.ite ?_ ?_
      | refine LeO.bind ?_ (fun _ => ?_)
theorem nil_toList_ : (⟨#[]⟩ : ByteArray).toList = ([] : List UInt8) := by simp [ByteArray.toList_eq]
set_option maxHeartbeats 8000000 in
set_option maxRecDepth 100000 in
theorem kauditlaw25_begun.calls (k : Nat)  (r : Bool) (w : World) (hG : GL w) (h : kauditlaw25_begun.f k  = some r) :
    Calls Tryd.prog 53 #[] w fun e w' => e = .returned (.bool r) ∧ Below w.heap.size w w' := by
  have hu137 := Tryd.underlying137
  have hu141 := Tryd.underlying141
  have hu69 := Tryd.underlying69
  have HB := Aside0.mk (Below.refl w.heap.size w)
  have HGL := Aside0.mk hG
  clear hG
  have H : ((logfile_Encode.f k 2 0 0 0 ([] : List (S50)) false 3 5 2 0 (⟨#[]⟩ : ByteArray) 0 0 ([] : List Int)).bind fun bt634 => ((logfile_Frame.f k 0 0 0 (([1] : List Int))).bind fun bt641 => (if bt634.2 = 0 then ((kauditref24_SameBytes.f bt634.1 (([2, 3, 5, 2, 0] : List Int))).bind fun t649 => (if t649 = true then (if bt641.2.2 = 0 then (if (bt641.1.length : Int) = 13 then (some (bt641.2.1 != 0)) else (some false)) else (some false)) else (some false))) else (some false)))) = some r := h
  clear h
  replace H := Option.bind_eq_some_iff.mp H
  obtain ⟨⟨t634, t637⟩, A10, H⟩ := H
  replace H : ((logfile_Frame.f k 0 0 0 (([1] : List Int))).bind fun bt641 => (if t637 = 0 then ((kauditref24_SameBytes.f t634 (([2, 3, 5, 2, 0] : List Int))).bind fun t649 => (if t649 = true then (if bt641.2.2 = 0 then (if (bt641.1.length : Int) = 13 then (some (bt641.2.1 != 0)) else (some false)) else (some false)) else (some false))) else (some false))) = some r := H
  have A1 := Aside0.mk A10
  clear A10
  obtain ⟨y638, hy638⟩ : ∃ y_ : List Int, y_ = (([1] : List Int)) := ⟨_, rfl⟩
  replace H : ((logfile_Frame.f k 0 0 0 y638).bind fun bt641 => (if t637 = 0 then ((kauditref24_SameBytes.f t634 (([2, 3, 5, 2, 0] : List Int))).bind fun t649 => (if t649 = true then (if bt641.2.2 = 0 then (if (bt641.1.length : Int) = 13 then (some (bt641.2.1 != 0)) else (some false)) else (some false)) else (some false))) else (some false))) = some r := by first | (rw [hy638]; with_reducible exact H) | (have H2_ := (Option.bind_some _ _).symm.trans H; rw [hy638]; with_reducible exact H2_) | (have H2_ := (Option.bind_some _ _).symm.trans H; with_reducible exact H2_) | with_reducible exact H | (rw [hy638]; exact H) | exact H
  have Ny638 := Aside0.mk hy638
  clear hy638
  replace H := Option.bind_eq_some_iff.mp H
  obtain ⟨⟨t641, t644, t645⟩, A20, H⟩ := H
  replace H : (if t637 = 0 then ((kauditref24_SameBytes.f t634 (([2, 3, 5, 2, 0] : List Int))).bind fun t649 => (if t649 = true then (if t645 = 0 then (if (t641.length : Int) = 13 then (some (t644 != 0)) else (some false)) else (some false)) else (some false))) else (some false)) = some r := H
  have A2 := Aside0.mk A20
  clear A20
  by_cases c3 : t637 = 0
  · rw [if_pos c3] at H
    have c3b0 : (t637 == 0) = true := beq_iff_eq.mpr c3
    have c3b1 : (t637 != 0) = false := bne_eq_false_iff_eq.mpr c3
    clear c3
    obtain ⟨y646, hy646⟩ : ∃ y_ : List Int, y_ = (([2, 3, 5, 2, 0] : List Int)) := ⟨_, rfl⟩
    replace H : ((kauditref24_SameBytes.f t634 y646).bind fun t649 => (if t649 = true then (if t645 = 0 then (if (t641.length : Int) = 13 then (some (t644 != 0)) else (some false)) else (some false)) else (some false))) = some r := by first | (rw [hy646]; with_reducible exact H) | (have H2_ := (Option.bind_some _ _).symm.trans H; rw [hy646]; with_reducible exact H2_) | (have H2_ := (Option.bind_some _ _).symm.trans H; with_reducible exact H2_) | with_reducible exact H | (rw [hy646]; exact H) | exact H
    have Ny646 := Aside0.mk hy646
    clear hy646
    replace H := Option.bind_eq_some_iff.mp H
    obtain ⟨t649, A40, H⟩ := H
    replace H : (if t649 = true then (if t645 = 0 then (if (t641.length : Int) = 13 then (some (t644 != 0)) else (some false)) else (some false)) else (some false)) = some r := H
    have A4 := Aside0.mk A40
    clear A40
    by_cases c5 : t649 = true
    · subst c5
      have H1 : (if t645 = 0 then (if (t641.length : Int) = 13 then (some (t644 != 0)) else (some false)) else (some false)) = some r := by rw [if_pos rfl] at H; exact H
      clear H
      have H := H1
      clear H1
      by_cases c6 : t645 = 0
      · rw [if_pos c6] at H
        have c6b0 : (t645 == 0) = true := beq_iff_eq.mpr c6
        have c6b1 : (t645 != 0) = false := bne_eq_false_iff_eq.mpr c6
        clear c6
        by_cases c7 : (t641.length : Int) = 13
        · rw [if_pos c7] at H
          have c7b0 : ((t641.length : Int) == 13) = true := beq_iff_eq.mpr c7
          have c7b1 : ((t641.length : Int) != 13) = false := bne_eq_false_iff_eq.mpr c7
          clear c7
          obtain rfl := Option.some.inj H
          go_enter Tryd.func53, Tryd.ntmps53
          go_wp2_with (first | ((with_reducible refine gate_callee (f := 91) rfl ?_); refine goesL_ (some 9) rfl rfl Tryd.func91 (by kernel_rfl) rfl #[.agg #[.int .i64 2, .int .i64 0, .int .i64 0, .int .i64 0, .slice none 0 0, .bool false, .int .i64 3, .int .i64 5, .int .i64 2, .int .i64 0, .string (⟨#[]⟩ : ByteArray), .int .i64 0, .int .i64 0, .slice none 0 0]] rfl (by (try simp only [List.map_toArray, List.map_cons, List.map_nil]); first | done | rfl | (simp only [List.length_drop, List.length_take]; rfl)) ?_; (refine (logfile_Encode.callsK k 2 0 0 0 _ _ ([] : List (S50)) false 3 5 2 0 (⟨#[]⟩ : ByteArray) 0 0 _ _ ([] : List Int) t634 t637 _ ?side1 ?side2 ?side3 ?side4 ?side5 rfl rfl rfl rfl rfl nil_toList_ rfl rfl A1.out).mono ?_); (case side1 => exact Kd.C_nil _ _); (case side2 => exact Nat.le_refl _); (case side3 => exact Kd.C_nil _ _); (case side4 => exact Nat.le_refl _); (case side5 => refine GL.below HGL.out ?_; repeat (first | (with_reducible first | exact HB.out | apply below_alloc | apply pw_below_drewN | apply below_drew1) | exact HB.out)); rintro e w8 ⟨v635, rfl, ho0, hb⟩; refine ⟨_, rfl, ?_⟩; have n0_ := Aside0.mk (Kd.R_lower ho0 (below_size (by repeat (first | (with_reducible first | exact HB.out | apply below_alloc | apply pw_below_drewN | apply below_drew1) | exact HB.out)))); have n1_ := Aside0.mk (below_step (by repeat (first | (with_reducible first | exact HB.out | apply below_alloc | apply pw_below_drewN | apply below_drew1) | exact HB.out)) hb); clear HB; have HO636 := n0_; have HB := n1_; clear n0_ n1_; (try clear hb); (try clear hb2); (try clear hk); (try clear hi); (try clear ho0)) | ((with_reducible refine gate_dst (N := 14) rfl ?_); (try (refine gate_guard (by rfl) ?_; dsimp only)); refine Kd.R_lit (Kd.int .u8) _ 5 ?hg (N := 14) ?hd (xs := ([1] : List Int)) (inner := [.int .u8 1]) (ok := fun _ => True) (okp := fun _ => True) ?hr ?hp (fun _ hk => hk) trivial (Below.refl _ _) (Nat.le_refl _) (by simp) ?_; (case hd => rfl); (case hg => rfl); (case hr => first | (go_simp; done) | (go_simp; rfl)); (case hp => exact (Reps.one (show Kd.M (Kd.int .u8) _ _ _ 1 [.int .u8 1] from rfl) (Reps.none _ _))); intro v639 w9 ho10 hb hg_ hnew_; clear hg_ hnew_; (first | rw [← Ny638.out] at ho10 | (simp only [Int.reduceToNat] at ho10; rw [← Ny638.out] at ho10)); have n0_ := Aside0.mk (Kd.R_elder' (by (with_reducible repeat (first | apply Kd.R_alloc | apply Kd.R_drewN | apply Kd.R_drew)); exact HO636.out) (Kd.R_base ho10) hb); have n1_ := Aside0.mk (Kd.R_lower (Kd.R_new' ho10 (Kd.R_lt (by (with_reducible repeat (first | apply Kd.R_alloc | apply Kd.R_drewN | apply Kd.R_drew)); exact HO636.out))) (below_size (by repeat (first | (with_reducible first | exact HB.out | apply below_alloc | apply pw_below_drewN | apply below_drew1) | exact HB.out)))); have n2_ := Aside0.mk (below_step (by repeat (first | (with_reducible first | exact HB.out | apply below_alloc | apply pw_below_drewN | apply below_drew1) | exact HB.out)) hb); clear HO636; clear HB; have HO636 := n0_; have HO640 := n1_; have HB := n2_; clear n0_ n1_ n2_; clear hb ho10; obtain ⟨Ao11, co11, eo11⟩ := Kd.R_slice HO640.out; subst eo11) | ((with_reducible refine gate_callee (f := 48) rfl ?_); refine goesL_ (some 15) rfl rfl Tryd.func48 (by kernel_rfl) rfl #[.agg #[.int .u64 0, .int .u64 0], .int .u64 0, .slice Ao11 y638.length co11] rfl (by (try simp only [List.map_toArray, List.map_cons, List.map_nil]); first | done | rfl | (simp only [List.length_drop, List.length_take]; rfl)) ?_; (with_reducible refine (logfile_Frame.calls k 0 0 0 _ _ y638 t641 t644 t645 _ ?side1 ?side2 A2.out).mono ?_); (case side1 => repeat (first | exact (Kd.R_reads' HO640.out).2.2 | (with_reducible refine Kd.C_alloc ?_ _) | (with_reducible refine Kd.C_drewN ?_ _) | (with_reducible refine Kd.C_drew ?_))); (case side2 => exact (Kd.R_reads' HO640.out).2.1); rintro e w12 ⟨v642, rfl, ho0, hb⟩; refine ⟨_, rfl, ?_⟩; have n0_ := Aside0.mk (Kd.R_elder' (by (with_reducible repeat (first | apply Kd.R_alloc | apply Kd.R_drewN | apply Kd.R_drew)); exact HO636.out) (Kd.R_base ho0) hb); have n1_ := Aside0.mk (Kd.R_elder' (by (with_reducible repeat (first | apply Kd.R_alloc | apply Kd.R_drewN | apply Kd.R_drew)); exact HO640.out) (Kd.R_base ho0) hb); have n2_ := Aside0.mk (Kd.R_lower (Kd.R_new' (Kd.R_new' ho0 (Kd.R_lt (by (with_reducible repeat (first | apply Kd.R_alloc | apply Kd.R_drewN | apply Kd.R_drew)); exact HO636.out))) (Kd.R_lt (by (with_reducible repeat (first | apply Kd.R_alloc | apply Kd.R_drewN | apply Kd.R_drew)); exact HO640.out))) (below_size (by repeat (first | (with_reducible first | exact HB.out | apply below_alloc | apply pw_below_drewN | apply below_drew1) | exact HB.out)))); have n3_ := Aside0.mk (below_step (by repeat (first | (with_reducible first | exact HB.out | apply below_alloc | apply pw_below_drewN | apply below_drew1) | exact HB.out)) hb); clear HO636; clear HO640; clear HB; have HO636 := n0_; have HO640 := n1_; have HO643 := n2_; have HB := n3_; clear n0_ n1_ n2_ n3_; (try clear hb); (try clear hb2); (try clear hk); (try clear hi); (try clear ho0)) | ((with_reducible refine gate_dst (N := 23) rfl ?_); (try (refine gate_guard (by rfl) ?_; dsimp only)); refine Kd.R_lit (Kd.int .u8) _ 5 ?hg (N := 23) ?hd (xs := ([2, 3, 5, 2, 0] : List Int)) (inner := [.int .u8 2, .int .u8 3, .int .u8 5, .int .u8 2, .int .u8 0]) (ok := fun _ => True) (okp := fun _ => True) ?hr ?hp (fun _ hk => hk) trivial (Below.refl _ _) (Nat.le_refl _) (by simp) ?_; (case hd => rfl); (case hg => rfl); (case hr => first | (go_simp; done) | (go_simp; rfl)); (case hp => exact (Reps.one (show Kd.M (Kd.int .u8) _ _ _ 2 [.int .u8 2] from rfl) (Reps.one (show Kd.M (Kd.int .u8) _ _ _ 3 [.int .u8 3] from rfl) (Reps.one (show Kd.M (Kd.int .u8) _ _ _ 5 [.int .u8 5] from rfl) (Reps.one (show Kd.M (Kd.int .u8) _ _ _ 2 [.int .u8 2] from rfl) (Reps.one (show Kd.M (Kd.int .u8) _ _ _ 0 [.int .u8 0] from rfl) (Reps.none _ _))))))); intro v647 w13 ho14 hb hg_ hnew_; clear hg_ hnew_; (first | rw [← Ny646.out] at ho14 | (simp only [Int.reduceToNat] at ho14; rw [← Ny646.out] at ho14)); have n0_ := Aside0.mk (Kd.R_elder' (by (with_reducible repeat (first | apply Kd.R_alloc | apply Kd.R_drewN | apply Kd.R_drew)); exact HO636.out) (Kd.R_base ho14) hb); have n1_ := Aside0.mk (Kd.R_elder' (by (with_reducible repeat (first | apply Kd.R_alloc | apply Kd.R_drewN | apply Kd.R_drew)); exact HO640.out) (Kd.R_base ho14) hb); have n2_ := Aside0.mk (Kd.R_elder' (by (with_reducible repeat (first | apply Kd.R_alloc | apply Kd.R_drewN | apply Kd.R_drew)); exact HO643.out) (Kd.R_base ho14) hb); have n3_ := Aside0.mk (Kd.R_lower (Kd.R_new' (Kd.R_new' (Kd.R_new' ho14 (Kd.R_lt (by (with_reducible repeat (first | apply Kd.R_alloc | apply Kd.R_drewN | apply Kd.R_drew)); exact HO636.out))) (Kd.R_lt (by (with_reducible repeat (first | apply Kd.R_alloc | apply Kd.R_drewN | apply Kd.R_drew)); exact HO640.out))) (Kd.R_lt (by (with_reducible repeat (first | apply Kd.R_alloc | apply Kd.R_drewN | apply Kd.R_drew)); exact HO643.out))) (below_size (by repeat (first | (with_reducible first | exact HB.out | apply below_alloc | apply pw_below_drewN | apply below_drew1) | exact HB.out)))); have n4_ := Aside0.mk (below_step (by repeat (first | (with_reducible first | exact HB.out | apply below_alloc | apply pw_below_drewN | apply below_drew1) | exact HB.out)) hb); clear HO636; clear HO640; clear HO643; clear HB; have HO636 := n0_; have HO640 := n1_; have HO643 := n2_; have HO648 := n3_; have HB := n4_; clear n0_ n1_ n2_ n3_ n4_; clear hb ho14; obtain ⟨Ao15, co15, eo15⟩ := Kd.R_slice HO636.out; subst eo15; obtain ⟨Ao16, co16, eo16⟩ := Kd.R_slice HO648.out; subst eo16) | (go_at_call 50; (with_reducible refine (kauditref24_SameBytes.calls _ _ t634 _ _ y646 true _ ?side1 ?side2 ?side3 ?side4 A4.out).mono ?_); (case side1 => repeat (first | exact (Kd.R_reads' HO636.out).2.2 | (with_reducible refine Kd.C_alloc ?_ _) | (with_reducible refine Kd.C_drewN ?_ _) | (with_reducible refine Kd.C_drew ?_))); (case side2 => exact (Kd.R_reads' HO636.out).2.1); (case side3 => repeat (first | exact (Kd.R_reads' HO648.out).2.2 | (with_reducible refine Kd.C_alloc ?_ _) | (with_reducible refine Kd.C_drewN ?_ _) | (with_reducible refine Kd.C_drew ?_))); (case side4 => exact (Kd.R_reads' HO648.out).2.1); rintro e w' ⟨rfl, ⟨nd, rfl⟩⟩; obtain ⟨Ao17, co17, eo17⟩ := Kd.R_slice HO643.out; subst eo17))
          go_ret
          exact ⟨by first | rfl | (simp [errW_none, errW_some] <;> rfl) | (simp [*, errW_none, errW_some] <;> rfl) | (simp only [isEmpty_ne_, isEmpty_eq_]; rfl) | (simp [*, isEmpty_ne_, isEmpty_eq_]; done), by repeat (first | (with_reducible first | exact HB.out | apply below_alloc | apply pw_below_drewN | apply below_drew1) | exact HB.out)⟩
        · rw [if_neg c7] at H
          have c7b0 : ((t641.length : Int) == 13) = false := beq_eq_false_iff_ne.mpr c7
          have c7b1 : ((t641.length : Int) != 13) = true := bne_iff_ne.mpr c7
          obtain rfl := Option.some.inj H
          go_enter Tryd.func53, Tryd.ntmps53
          go_wp2_with (first | ((with_reducible refine gate_callee (f := 91) rfl ?_); refine goesL_ (some 9) rfl rfl Tryd.func91 (by kernel_rfl) rfl #[.agg #[.int .i64 2, .int .i64 0, .int .i64 0, .int .i64 0, .slice none 0 0, .bool false, .int .i64 3, .int .i64 5, .int .i64 2, .int .i64 0, .string (⟨#[]⟩ : ByteArray), .int .i64 0, .int .i64 0, .slice none 0 0]] rfl (by (try simp only [List.map_toArray, List.map_cons, List.map_nil]); first | done | rfl | (simp only [List.length_drop, List.length_take]; rfl)) ?_; (refine (logfile_Encode.callsK k 2 0 0 0 _ _ ([] : List (S50)) false 3 5 2 0 (⟨#[]⟩ : ByteArray) 0 0 _ _ ([] : List Int) t634 t637 _ ?side1 ?side2 ?side3 ?side4 ?side5 rfl rfl rfl rfl rfl nil_toList_ rfl rfl A1.out).mono ?_); (case side1 => exact Kd.C_nil _ _); (case side2 => exact Nat.le_refl _); (case side3 => exact Kd.C_nil _ _); (case side4 => exact Nat.le_refl _); (case side5 => refine GL.below HGL.out ?_; repeat (first | (with_reducible first | exact HB.out | apply below_alloc | apply pw_below_drewN | apply below_drew1) | exact HB.out)); rintro e w18 ⟨v635, rfl, ho0, hb⟩; refine ⟨_, rfl, ?_⟩; have n0_ := Aside0.mk (Kd.R_lower ho0 (below_size (by repeat (first | (with_reducible first | exact HB.out | apply below_alloc | apply pw_below_drewN | apply below_drew1) | exact HB.out)))); have n1_ := Aside0.mk (below_step (by repeat (first | (with_reducible first | exact HB.out | apply below_alloc | apply pw_below_drewN | apply below_drew1) | exact HB.out)) hb); clear HB; have HO636 := n0_; have HB := n1_; clear n0_ n1_; (try clear hb); (try clear hb2); (try clear hk); (try clear hi); (try clear ho0)) | ((with_reducible refine gate_dst (N := 14) rfl ?_); (try (refine gate_guard (by rfl) ?_; dsimp only)); refine Kd.R_lit (Kd.int .u8) _ 5 ?hg (N := 14) ?hd (xs := ([1] : List Int)) (inner := [.int .u8 1]) (ok := fun _ => True) (okp := fun _ => True) ?hr ?hp (fun _ hk => hk) trivial (Below.refl _ _) (Nat.le_refl _) (by simp) ?_; (case hd => rfl); (case hg => rfl); (case hr => first | (go_simp; done) | (go_simp; rfl)); (case hp => exact (Reps.one (show Kd.M (Kd.int .u8) _ _ _ 1 [.int .u8 1] from rfl) (Reps.none _ _))); intro v639 w19 ho20 hb hg_ hnew_; clear hg_ hnew_; (first | rw [← Ny638.out] at ho20 | (simp only [Int.reduceToNat] at ho20; rw [← Ny638.out] at ho20)); have n0_ := Aside0.mk (Kd.R_elder' (by (with_reducible repeat (first | apply Kd.R_alloc | apply Kd.R_drewN | apply Kd.R_drew)); exact HO636.out) (Kd.R_base ho20) hb); have n1_ := Aside0.mk (Kd.R_lower (Kd.R_new' ho20 (Kd.R_lt (by (with_reducible repeat (first | apply Kd.R_alloc | apply Kd.R_drewN | apply Kd.R_drew)); exact HO636.out))) (below_size (by repeat (first | (with_reducible first | exact HB.out | apply below_alloc | apply pw_below_drewN | apply below_drew1) | exact HB.out)))); have n2_ := Aside0.mk (below_step (by repeat (first | (with_reducible first | exact HB.out | apply below_alloc | apply pw_below_drewN | apply below_drew1) | exact HB.out)) hb); clear HO636; clear HB; have HO636 := n0_; have HO640 := n1_; have HB := n2_; clear n0_ n1_ n2_; clear hb ho20; obtain ⟨Ao21, co21, eo21⟩ := Kd.R_slice HO640.out; subst eo21) | ((with_reducible refine gate_callee (f := 48) rfl ?_); refine goesL_ (some 15) rfl rfl Tryd.func48 (by kernel_rfl) rfl #[.agg #[.int .u64 0, .int .u64 0], .int .u64 0, .slice Ao21 y638.length co21] rfl (by (try simp only [List.map_toArray, List.map_cons, List.map_nil]); first | done | rfl | (simp only [List.length_drop, List.length_take]; rfl)) ?_; (with_reducible refine (logfile_Frame.calls k 0 0 0 _ _ y638 t641 t644 t645 _ ?side1 ?side2 A2.out).mono ?_); (case side1 => repeat (first | exact (Kd.R_reads' HO640.out).2.2 | (with_reducible refine Kd.C_alloc ?_ _) | (with_reducible refine Kd.C_drewN ?_ _) | (with_reducible refine Kd.C_drew ?_))); (case side2 => exact (Kd.R_reads' HO640.out).2.1); rintro e w22 ⟨v642, rfl, ho0, hb⟩; refine ⟨_, rfl, ?_⟩; have n0_ := Aside0.mk (Kd.R_elder' (by (with_reducible repeat (first | apply Kd.R_alloc | apply Kd.R_drewN | apply Kd.R_drew)); exact HO636.out) (Kd.R_base ho0) hb); have n1_ := Aside0.mk (Kd.R_elder' (by (with_reducible repeat (first | apply Kd.R_alloc | apply Kd.R_drewN | apply Kd.R_drew)); exact HO640.out) (Kd.R_base ho0) hb); have n2_ := Aside0.mk (Kd.R_lower (Kd.R_new' (Kd.R_new' ho0 (Kd.R_lt (by (with_reducible repeat (first | apply Kd.R_alloc | apply Kd.R_drewN | apply Kd.R_drew)); exact HO636.out))) (Kd.R_lt (by (with_reducible repeat (first | apply Kd.R_alloc | apply Kd.R_drewN | apply Kd.R_drew)); exact HO640.out))) (below_size (by repeat (first | (with_reducible first | exact HB.out | apply below_alloc | apply pw_below_drewN | apply below_drew1) | exact HB.out)))); have n3_ := Aside0.mk (below_step (by repeat (first | (with_reducible first | exact HB.out | apply below_alloc | apply pw_below_drewN | apply below_drew1) | exact HB.out)) hb); clear HO636; clear HO640; clear HB; have HO636 := n0_; have HO640 := n1_; have HO643 := n2_; have HB := n3_; clear n0_ n1_ n2_ n3_; (try clear hb); (try clear hb2); (try clear hk); (try clear hi); (try clear ho0)) | ((with_reducible refine gate_dst (N := 23) rfl ?_); (try (refine gate_guard (by rfl) ?_; dsimp only)); refine Kd.R_lit (Kd.int .u8) _ 5 ?hg (N := 23) ?hd (xs := ([2, 3, 5, 2, 0] : List Int)) (inner := [.int .u8 2, .int .u8 3, .int .u8 5, .int .u8 2, .int .u8 0]) (ok := fun _ => True) (okp := fun _ => True) ?hr ?hp (fun _ hk => hk) trivial (Below.refl _ _) (Nat.le_refl _) (by simp) ?_; (case hd => rfl); (case hg => rfl); (case hr => first | (go_simp; done) | (go_simp; rfl)); (case hp => exact (Reps.one (show Kd.M (Kd.int .u8) _ _ _ 2 [.int .u8 2] from rfl) (Reps.one (show Kd.M (Kd.int .u8) _ _ _ 3 [.int .u8 3] from rfl) (Reps.one (show Kd.M (Kd.int .u8) _ _ _ 5 [.int .u8 5] from rfl) (Reps.one (show Kd.M (Kd.int .u8) _ _ _ 2 [.int .u8 2] from rfl) (Reps.one (show Kd.M (Kd.int .u8) _ _ _ 0 [.int .u8 0] from rfl) (Reps.none _ _))))))); intro v647 w23 ho24 hb hg_ hnew_; clear hg_ hnew_; (first | rw [← Ny646.out] at ho24 | (simp only [Int.reduceToNat] at ho24; rw [← Ny646.out] at ho24)); have n0_ := Aside0.mk (Kd.R_elder' (by (with_reducible repeat (first | apply Kd.R_alloc | apply Kd.R_drewN | apply Kd.R_drew)); exact HO636.out) (Kd.R_base ho24) hb); have n1_ := Aside0.mk (Kd.R_elder' (by (with_reducible repeat (first | apply Kd.R_alloc | apply Kd.R_drewN | apply Kd.R_drew)); exact HO640.out) (Kd.R_base ho24) hb); have n2_ := Aside0.mk (Kd.R_elder' (by (with_reducible repeat (first | apply Kd.R_alloc | apply Kd.R_drewN | apply Kd.R_drew)); exact HO643.out) (Kd.R_base ho24) hb); have n3_ := Aside0.mk (Kd.R_lower (Kd.R_new' (Kd.R_new' (Kd.R_new' ho24 (Kd.R_lt (by (with_reducible repeat (first | apply Kd.R_alloc | apply Kd.R_drewN | apply Kd.R_drew)); exact HO636.out))) (Kd.R_lt (by (with_reducible repeat (first | apply Kd.R_alloc | apply Kd.R_drewN | apply Kd.R_drew)); exact HO640.out))) (Kd.R_lt (by (with_reducible repeat (first | apply Kd.R_alloc | apply Kd.R_drewN | apply Kd.R_drew)); exact HO643.out))) (below_size (by repeat (first | (with_reducible first | exact HB.out | apply below_alloc | apply pw_below_drewN | apply below_drew1) | exact HB.out)))); have n4_ := Aside0.mk (below_step (by repeat (first | (with_reducible first | exact HB.out | apply below_alloc | apply pw_below_drewN | apply below_drew1) | exact HB.out)) hb); clear HO636; clear HO640; clear HO643; clear HB; have HO636 := n0_; have HO640 := n1_; have HO643 := n2_; have HO648 := n3_; have HB := n4_; clear n0_ n1_ n2_ n3_ n4_; clear hb ho24; obtain ⟨Ao25, co25, eo25⟩ := Kd.R_slice HO636.out; subst eo25; obtain ⟨Ao26, co26, eo26⟩ := Kd.R_slice HO648.out; subst eo26) | (go_at_call 50; (with_reducible refine (kauditref24_SameBytes.calls _ _ t634 _ _ y646 true _ ?side1 ?side2 ?side3 ?side4 A4.out).mono ?_); (case side1 => repeat (first | exact (Kd.R_reads' HO636.out).2.2 | (with_reducible refine Kd.C_alloc ?_ _) | (with_reducible refine Kd.C_drewN ?_ _) | (with_reducible refine Kd.C_drew ?_))); (case side2 => exact (Kd.R_reads' HO636.out).2.1); (case side3 => repeat (first | exact (Kd.R_reads' HO648.out).2.2 | (with_reducible refine Kd.C_alloc ?_ _) | (with_reducible refine Kd.C_drewN ?_ _) | (with_reducible refine Kd.C_drew ?_))); (case side4 => exact (Kd.R_reads' HO648.out).2.1); rintro e w' ⟨rfl, ⟨nd, rfl⟩⟩; obtain ⟨Ao27, co27, eo27⟩ := Kd.R_slice HO643.out; subst eo27))
          go_ret
          exact ⟨by first | rfl | (simp [errW_none, errW_some] <;> rfl) | (simp [*, errW_none, errW_some] <;> rfl) | (simp only [isEmpty_ne_, isEmpty_eq_]; rfl) | (simp [*, isEmpty_ne_, isEmpty_eq_]; done), by repeat (first | (with_reducible first | exact HB.out | apply below_alloc | apply pw_below_drewN | apply below_drew1) | exact HB.out)⟩
      · rw [if_neg c6] at H
        have c6b0 : (t645 == 0) = false := beq_eq_false_iff_ne.mpr c6
        have c6b1 : (t645 != 0) = true := bne_iff_ne.mpr c6
        obtain rfl := Option.some.inj H
        go_enter Tryd.func53, Tryd.ntmps53
        go_wp2_with (first | ((with_reducible refine gate_callee (f := 91) rfl ?_); refine goesL_ (some 9) rfl rfl Tryd.func91 (by kernel_rfl) rfl #[.agg #[.int .i64 2, .int .i64 0, .int .i64 0, .int .i64 0, .slice none 0 0, .bool false, .int .i64 3, .int .i64 5, .int .i64 2, .int .i64 0, .string (⟨#[]⟩ : ByteArray), .int .i64 0, .int .i64 0, .slice none 0 0]] rfl (by (try simp only [List.map_toArray, List.map_cons, List.map_nil]); first | done | rfl | (simp only [List.length_drop, List.length_take]; rfl)) ?_; (refine (logfile_Encode.callsK k 2 0 0 0 _ _ ([] : List (S50)) false 3 5 2 0 (⟨#[]⟩ : ByteArray) 0 0 _ _ ([] : List Int) t634 t637 _ ?side1 ?side2 ?side3 ?side4 ?side5 rfl rfl rfl rfl rfl nil_toList_ rfl rfl A1.out).mono ?_); (case side1 => exact Kd.C_nil _ _); (case side2 => exact Nat.le_refl _); (case side3 => exact Kd.C_nil _ _); (case side4 => exact Nat.le_refl _); (case side5 => refine GL.below HGL.out ?_; repeat (first | (with_reducible first | exact HB.out | apply below_alloc | apply pw_below_drewN | apply below_drew1) | exact HB.out)); rintro e w28 ⟨v635, rfl, ho0, hb⟩; refine ⟨_, rfl, ?_⟩; have n0_ := Aside0.mk (Kd.R_lower ho0 (below_size (by repeat (first | (with_reducible first | exact HB.out | apply below_alloc | apply pw_below_drewN | apply below_drew1) | exact HB.out)))); have n1_ := Aside0.mk (below_step (by repeat (first | (with_reducible first | exact HB.out | apply below_alloc | apply pw_below_drewN | apply below_drew1) | exact HB.out)) hb); clear HB; have HO636 := n0_; have HB := n1_; clear n0_ n1_; (try clear hb); (try clear hb2); (try clear hk); (try clear hi); (try clear ho0)) | ((with_reducible refine gate_dst (N := 14) rfl ?_); (try (refine gate_guard (by rfl) ?_; dsimp only)); refine Kd.R_lit (Kd.int .u8) _ 5 ?hg (N := 14) ?hd (xs := ([1] : List Int)) (inner := [.int .u8 1]) (ok := fun _ => True) (okp := fun _ => True) ?hr ?hp (fun _ hk => hk) trivial (Below.refl _ _) (Nat.le_refl _) (by simp) ?_; (case hd => rfl); (case hg => rfl); (case hr => first | (go_simp; done) | (go_simp; rfl)); (case hp => exact (Reps.one (show Kd.M (Kd.int .u8) _ _ _ 1 [.int .u8 1] from rfl) (Reps.none _ _))); intro v639 w29 ho30 hb hg_ hnew_; clear hg_ hnew_; (first | rw [← Ny638.out] at ho30 | (simp only [Int.reduceToNat] at ho30; rw [← Ny638.out] at ho30)); have n0_ := Aside0.mk (Kd.R_elder' (by (with_reducible repeat (first | apply Kd.R_alloc | apply Kd.R_drewN | apply Kd.R_drew)); exact HO636.out) (Kd.R_base ho30) hb); have n1_ := Aside0.mk (Kd.R_lower (Kd.R_new' ho30 (Kd.R_lt (by (with_reducible repeat (first | apply Kd.R_alloc | apply Kd.R_drewN | apply Kd.R_drew)); exact HO636.out))) (below_size (by repeat (first | (with_reducible first | exact HB.out | apply below_alloc | apply pw_below_drewN | apply below_drew1) | exact HB.out)))); have n2_ := Aside0.mk (below_step (by repeat (first | (with_reducible first | exact HB.out | apply below_alloc | apply pw_below_drewN | apply below_drew1) | exact HB.out)) hb); clear HO636; clear HB; have HO636 := n0_; have HO640 := n1_; have HB := n2_; clear n0_ n1_ n2_; clear hb ho30; obtain ⟨Ao31, co31, eo31⟩ := Kd.R_slice HO640.out; subst eo31) | ((with_reducible refine gate_callee (f := 48) rfl ?_); refine goesL_ (some 15) rfl rfl Tryd.func48 (by kernel_rfl) rfl #[.agg #[.int .u64 0, .int .u64 0], .int .u64 0, .slice Ao31 y638.length co31] rfl (by (try simp only [List.map_toArray, List.map_cons, List.map_nil]); first | done | rfl | (simp only [List.length_drop, List.length_take]; rfl)) ?_; (with_reducible refine (logfile_Frame.calls k 0 0 0 _ _ y638 t641 t644 t645 _ ?side1 ?side2 A2.out).mono ?_); (case side1 => repeat (first | exact (Kd.R_reads' HO640.out).2.2 | (with_reducible refine Kd.C_alloc ?_ _) | (with_reducible refine Kd.C_drewN ?_ _) | (with_reducible refine Kd.C_drew ?_))); (case side2 => exact (Kd.R_reads' HO640.out).2.1); rintro e w32 ⟨v642, rfl, ho0, hb⟩; refine ⟨_, rfl, ?_⟩; have n0_ := Aside0.mk (Kd.R_elder' (by (with_reducible repeat (first | apply Kd.R_alloc | apply Kd.R_drewN | apply Kd.R_drew)); exact HO636.out) (Kd.R_base ho0) hb); have n1_ := Aside0.mk (Kd.R_elder' (by (with_reducible repeat (first | apply Kd.R_alloc | apply Kd.R_drewN | apply Kd.R_drew)); exact HO640.out) (Kd.R_base ho0) hb); have n2_ := Aside0.mk (Kd.R_lower (Kd.R_new' (Kd.R_new' ho0 (Kd.R_lt (by (with_reducible repeat (first | apply Kd.R_alloc | apply Kd.R_drewN | apply Kd.R_drew)); exact HO636.out))) (Kd.R_lt (by (with_reducible repeat (first | apply Kd.R_alloc | apply Kd.R_drewN | apply Kd.R_drew)); exact HO640.out))) (below_size (by repeat (first | (with_reducible first | exact HB.out | apply below_alloc | apply pw_below_drewN | apply below_drew1) | exact HB.out)))); have n3_ := Aside0.mk (below_step (by repeat (first | (with_reducible first | exact HB.out | apply below_alloc | apply pw_below_drewN | apply below_drew1) | exact HB.out)) hb); clear HO636; clear HO640; clear HB; have HO636 := n0_; have HO640 := n1_; have HO643 := n2_; have HB := n3_; clear n0_ n1_ n2_ n3_; (try clear hb); (try clear hb2); (try clear hk); (try clear hi); (try clear ho0)) | ((with_reducible refine gate_dst (N := 23) rfl ?_); (try (refine gate_guard (by rfl) ?_; dsimp only)); refine Kd.R_lit (Kd.int .u8) _ 5 ?hg (N := 23) ?hd (xs := ([2, 3, 5, 2, 0] : List Int)) (inner := [.int .u8 2, .int .u8 3, .int .u8 5, .int .u8 2, .int .u8 0]) (ok := fun _ => True) (okp := fun _ => True) ?hr ?hp (fun _ hk => hk) trivial (Below.refl _ _) (Nat.le_refl _) (by simp) ?_; (case hd => rfl); (case hg => rfl); (case hr => first | (go_simp; done) | (go_simp; rfl)); (case hp => exact (Reps.one (show Kd.M (Kd.int .u8) _ _ _ 2 [.int .u8 2] from rfl) (Reps.one (show Kd.M (Kd.int .u8) _ _ _ 3 [.int .u8 3] from rfl) (Reps.one (show Kd.M (Kd.int .u8) _ _ _ 5 [.int .u8 5] from rfl) (Reps.one (show Kd.M (Kd.int .u8) _ _ _ 2 [.int .u8 2] from rfl) (Reps.one (show Kd.M (Kd.int .u8) _ _ _ 0 [.int .u8 0] from rfl) (Reps.none _ _))))))); intro v647 w33 ho34 hb hg_ hnew_; clear hg_ hnew_; (first | rw [← Ny646.out] at ho34 | (simp only [Int.reduceToNat] at ho34; rw [← Ny646.out] at ho34)); have n0_ := Aside0.mk (Kd.R_elder' (by (with_reducible repeat (first | apply Kd.R_alloc | apply Kd.R_drewN | apply Kd.R_drew)); exact HO636.out) (Kd.R_base ho34) hb); have n1_ := Aside0.mk (Kd.R_elder' (by (with_reducible repeat (first | apply Kd.R_alloc | apply Kd.R_drewN | apply Kd.R_drew)); exact HO640.out) (Kd.R_base ho34) hb); have n2_ := Aside0.mk (Kd.R_elder' (by (with_reducible repeat (first | apply Kd.R_alloc | apply Kd.R_drewN | apply Kd.R_drew)); exact HO643.out) (Kd.R_base ho34) hb); have n3_ := Aside0.mk (Kd.R_lower (Kd.R_new' (Kd.R_new' (Kd.R_new' ho34 (Kd.R_lt (by (with_reducible repeat (first | apply Kd.R_alloc | apply Kd.R_drewN | apply Kd.R_drew)); exact HO636.out))) (Kd.R_lt (by (with_reducible repeat (first | apply Kd.R_alloc | apply Kd.R_drewN | apply Kd.R_drew)); exact HO640.out))) (Kd.R_lt (by (with_reducible repeat (first | apply Kd.R_alloc | apply Kd.R_drewN | apply Kd.R_drew)); exact HO643.out))) (below_size (by repeat (first | (with_reducible first | exact HB.out | apply below_alloc | apply pw_below_drewN | apply below_drew1) | exact HB.out)))); have n4_ := Aside0.mk (below_step (by repeat (first | (with_reducible first | exact HB.out | apply below_alloc | apply pw_below_drewN | apply below_drew1) | exact HB.out)) hb); clear HO636; clear HO640; clear HO643; clear HB; have HO636 := n0_; have HO640 := n1_; have HO643 := n2_; have HO648 := n3_; have HB := n4_; clear n0_ n1_ n2_ n3_ n4_; clear hb ho34; obtain ⟨Ao35, co35, eo35⟩ := Kd.R_slice HO636.out; subst eo35; obtain ⟨Ao36, co36, eo36⟩ := Kd.R_slice HO648.out; subst eo36) | (go_at_call 50; (with_reducible refine (kauditref24_SameBytes.calls _ _ t634 _ _ y646 true _ ?side1 ?side2 ?side3 ?side4 A4.out).mono ?_); (case side1 => repeat (first | exact (Kd.R_reads' HO636.out).2.2 | (with_reducible refine Kd.C_alloc ?_ _) | (with_reducible refine Kd.C_drewN ?_ _) | (with_reducible refine Kd.C_drew ?_))); (case side2 => exact (Kd.R_reads' HO636.out).2.1); (case side3 => repeat (first | exact (Kd.R_reads' HO648.out).2.2 | (with_reducible refine Kd.C_alloc ?_ _) | (with_reducible refine Kd.C_drewN ?_ _) | (with_reducible refine Kd.C_drew ?_))); (case side4 => exact (Kd.R_reads' HO648.out).2.1); rintro e w' ⟨rfl, ⟨nd, rfl⟩⟩))
        go_ret
        exact ⟨by first | rfl | (simp [errW_none, errW_some] <;> rfl) | (simp [*, errW_none, errW_some] <;> rfl) | (simp only [isEmpty_ne_, isEmpty_eq_]; rfl) | (simp [*, isEmpty_ne_, isEmpty_eq_]; done), by repeat (first | (with_reducible first | exact HB.out | apply below_alloc | apply pw_below_drewN | apply below_drew1) | exact HB.out)⟩
    · replace c5 := Bool.eq_false_iff.mpr c5
      subst c5
      have H1 : (some false) = some r := by rw [if_neg (show ¬ (false = true) by decide)] at H; exact H
      clear H
      have H := H1
      clear H1
      obtain rfl := Option.some.inj H
      go_enter Tryd.func53, Tryd.ntmps53
      go_wp2_with (first | ((with_reducible refine gate_callee (f := 91) rfl ?_); refine goesL_ (some 9) rfl rfl Tryd.func91 (by kernel_rfl) rfl #[.agg #[.int .i64 2, .int .i64 0, .int .i64 0, .int .i64 0, .slice none 0 0, .bool false, .int .i64 3, .int .i64 5, .int .i64 2, .int .i64 0, .string (⟨#[]⟩ : ByteArray), .int .i64 0, .int .i64 0, .slice none 0 0]] rfl (by (try simp only [List.map_toArray, List.map_cons, List.map_nil]); first | done | rfl | (simp only [List.length_drop, List.length_take]; rfl)) ?_; (refine (logfile_Encode.callsK k 2 0 0 0 _ _ ([] : List (S50)) false 3 5 2 0 (⟨#[]⟩ : ByteArray) 0 0 _ _ ([] : List Int) t634 t637 _ ?side1 ?side2 ?side3 ?side4 ?side5 rfl rfl rfl rfl rfl nil_toList_ rfl rfl A1.out).mono ?_); (case side1 => exact Kd.C_nil _ _); (case side2 => exact Nat.le_refl _); (case side3 => exact Kd.C_nil _ _); (case side4 => exact Nat.le_refl _); (case side5 => refine GL.below HGL.out ?_; repeat (first | (with_reducible first | exact HB.out | apply below_alloc | apply pw_below_drewN | apply below_drew1) | exact HB.out)); rintro e w37 ⟨v635, rfl, ho0, hb⟩; refine ⟨_, rfl, ?_⟩; have n0_ := Aside0.mk (Kd.R_lower ho0 (below_size (by repeat (first | (with_reducible first | exact HB.out | apply below_alloc | apply pw_below_drewN | apply below_drew1) | exact HB.out)))); have n1_ := Aside0.mk (below_step (by repeat (first | (with_reducible first | exact HB.out | apply below_alloc | apply pw_below_drewN | apply below_drew1) | exact HB.out)) hb); clear HB; have HO636 := n0_; have HB := n1_; clear n0_ n1_; (try clear hb); (try clear hb2); (try clear hk); (try clear hi); (try clear ho0)) | ((with_reducible refine gate_dst (N := 14) rfl ?_); (try (refine gate_guard (by rfl) ?_; dsimp only)); refine Kd.R_lit (Kd.int .u8) _ 5 ?hg (N := 14) ?hd (xs := ([1] : List Int)) (inner := [.int .u8 1]) (ok := fun _ => True) (okp := fun _ => True) ?hr ?hp (fun _ hk => hk) trivial (Below.refl _ _) (Nat.le_refl _) (by simp) ?_; (case hd => rfl); (case hg => rfl); (case hr => first | (go_simp; done) | (go_simp; rfl)); (case hp => exact (Reps.one (show Kd.M (Kd.int .u8) _ _ _ 1 [.int .u8 1] from rfl) (Reps.none _ _))); intro v639 w38 ho39 hb hg_ hnew_; clear hg_ hnew_; (first | rw [← Ny638.out] at ho39 | (simp only [Int.reduceToNat] at ho39; rw [← Ny638.out] at ho39)); have n0_ := Aside0.mk (Kd.R_elder' (by (with_reducible repeat (first | apply Kd.R_alloc | apply Kd.R_drewN | apply Kd.R_drew)); exact HO636.out) (Kd.R_base ho39) hb); have n1_ := Aside0.mk (Kd.R_lower (Kd.R_new' ho39 (Kd.R_lt (by (with_reducible repeat (first | apply Kd.R_alloc | apply Kd.R_drewN | apply Kd.R_drew)); exact HO636.out))) (below_size (by repeat (first | (with_reducible first | exact HB.out | apply below_alloc | apply pw_below_drewN | apply below_drew1) | exact HB.out)))); have n2_ := Aside0.mk (below_step (by repeat (first | (with_reducible first | exact HB.out | apply below_alloc | apply pw_below_drewN | apply below_drew1) | exact HB.out)) hb); clear HO636; clear HB; have HO636 := n0_; have HO640 := n1_; have HB := n2_; clear n0_ n1_ n2_; clear hb ho39; obtain ⟨Ao40, co40, eo40⟩ := Kd.R_slice HO640.out; subst eo40) | ((with_reducible refine gate_callee (f := 48) rfl ?_); refine goesL_ (some 15) rfl rfl Tryd.func48 (by kernel_rfl) rfl #[.agg #[.int .u64 0, .int .u64 0], .int .u64 0, .slice Ao40 y638.length co40] rfl (by (try simp only [List.map_toArray, List.map_cons, List.map_nil]); first | done | rfl | (simp only [List.length_drop, List.length_take]; rfl)) ?_; (with_reducible refine (logfile_Frame.calls k 0 0 0 _ _ y638 t641 t644 t645 _ ?side1 ?side2 A2.out).mono ?_); (case side1 => repeat (first | exact (Kd.R_reads' HO640.out).2.2 | (with_reducible refine Kd.C_alloc ?_ _) | (with_reducible refine Kd.C_drewN ?_ _) | (with_reducible refine Kd.C_drew ?_))); (case side2 => exact (Kd.R_reads' HO640.out).2.1); rintro e w41 ⟨v642, rfl, ho0, hb⟩; refine ⟨_, rfl, ?_⟩; have n0_ := Aside0.mk (Kd.R_elder' (by (with_reducible repeat (first | apply Kd.R_alloc | apply Kd.R_drewN | apply Kd.R_drew)); exact HO636.out) (Kd.R_base ho0) hb); have n1_ := Aside0.mk (Kd.R_elder' (by (with_reducible repeat (first | apply Kd.R_alloc | apply Kd.R_drewN | apply Kd.R_drew)); exact HO640.out) (Kd.R_base ho0) hb); have n2_ := Aside0.mk (Kd.R_lower (Kd.R_new' (Kd.R_new' ho0 (Kd.R_lt (by (with_reducible repeat (first | apply Kd.R_alloc | apply Kd.R_drewN | apply Kd.R_drew)); exact HO636.out))) (Kd.R_lt (by (with_reducible repeat (first | apply Kd.R_alloc | apply Kd.R_drewN | apply Kd.R_drew)); exact HO640.out))) (below_size (by repeat (first | (with_reducible first | exact HB.out | apply below_alloc | apply pw_below_drewN | apply below_drew1) | exact HB.out)))); have n3_ := Aside0.mk (below_step (by repeat (first | (with_reducible first | exact HB.out | apply below_alloc | apply pw_below_drewN | apply below_drew1) | exact HB.out)) hb); clear HO636; clear HO640; clear HB; have HO636 := n0_; have HO640 := n1_; have HO643 := n2_; have HB := n3_; clear n0_ n1_ n2_ n3_; (try clear hb); (try clear hb2); (try clear hk); (try clear hi); (try clear ho0)) | ((with_reducible refine gate_dst (N := 23) rfl ?_); (try (refine gate_guard (by rfl) ?_; dsimp only)); refine Kd.R_lit (Kd.int .u8) _ 5 ?hg (N := 23) ?hd (xs := ([2, 3, 5, 2, 0] : List Int)) (inner := [.int .u8 2, .int .u8 3, .int .u8 5, .int .u8 2, .int .u8 0]) (ok := fun _ => True) (okp := fun _ => True) ?hr ?hp (fun _ hk => hk) trivial (Below.refl _ _) (Nat.le_refl _) (by simp) ?_; (case hd => rfl); (case hg => rfl); (case hr => first | (go_simp; done) | (go_simp; rfl)); (case hp => exact (Reps.one (show Kd.M (Kd.int .u8) _ _ _ 2 [.int .u8 2] from rfl) (Reps.one (show Kd.M (Kd.int .u8) _ _ _ 3 [.int .u8 3] from rfl) (Reps.one (show Kd.M (Kd.int .u8) _ _ _ 5 [.int .u8 5] from rfl) (Reps.one (show Kd.M (Kd.int .u8) _ _ _ 2 [.int .u8 2] from rfl) (Reps.one (show Kd.M (Kd.int .u8) _ _ _ 0 [.int .u8 0] from rfl) (Reps.none _ _))))))); intro v647 w42 ho43 hb hg_ hnew_; clear hg_ hnew_; (first | rw [← Ny646.out] at ho43 | (simp only [Int.reduceToNat] at ho43; rw [← Ny646.out] at ho43)); have n0_ := Aside0.mk (Kd.R_elder' (by (with_reducible repeat (first | apply Kd.R_alloc | apply Kd.R_drewN | apply Kd.R_drew)); exact HO636.out) (Kd.R_base ho43) hb); have n1_ := Aside0.mk (Kd.R_elder' (by (with_reducible repeat (first | apply Kd.R_alloc | apply Kd.R_drewN | apply Kd.R_drew)); exact HO640.out) (Kd.R_base ho43) hb); have n2_ := Aside0.mk (Kd.R_elder' (by (with_reducible repeat (first | apply Kd.R_alloc | apply Kd.R_drewN | apply Kd.R_drew)); exact HO643.out) (Kd.R_base ho43) hb); have n3_ := Aside0.mk (Kd.R_lower (Kd.R_new' (Kd.R_new' (Kd.R_new' ho43 (Kd.R_lt (by (with_reducible repeat (first | apply Kd.R_alloc | apply Kd.R_drewN | apply Kd.R_drew)); exact HO636.out))) (Kd.R_lt (by (with_reducible repeat (first | apply Kd.R_alloc | apply Kd.R_drewN | apply Kd.R_drew)); exact HO640.out))) (Kd.R_lt (by (with_reducible repeat (first | apply Kd.R_alloc | apply Kd.R_drewN | apply Kd.R_drew)); exact HO643.out))) (below_size (by repeat (first | (with_reducible first | exact HB.out | apply below_alloc | apply pw_below_drewN | apply below_drew1) | exact HB.out)))); have n4_ := Aside0.mk (below_step (by repeat (first | (with_reducible first | exact HB.out | apply below_alloc | apply pw_below_drewN | apply below_drew1) | exact HB.out)) hb); clear HO636; clear HO640; clear HO643; clear HB; have HO636 := n0_; have HO640 := n1_; have HO643 := n2_; have HO648 := n3_; have HB := n4_; clear n0_ n1_ n2_ n3_ n4_; clear hb ho43; obtain ⟨Ao44, co44, eo44⟩ := Kd.R_slice HO636.out; subst eo44; obtain ⟨Ao45, co45, eo45⟩ := Kd.R_slice HO648.out; subst eo45) | (go_at_call 50; (with_reducible refine (kauditref24_SameBytes.calls _ _ t634 _ _ y646 false _ ?side1 ?side2 ?side3 ?side4 A4.out).mono ?_); (case side1 => repeat (first | exact (Kd.R_reads' HO636.out).2.2 | (with_reducible refine Kd.C_alloc ?_ _) | (with_reducible refine Kd.C_drewN ?_ _) | (with_reducible refine Kd.C_drew ?_))); (case side2 => exact (Kd.R_reads' HO636.out).2.1); (case side3 => repeat (first | exact (Kd.R_reads' HO648.out).2.2 | (with_reducible refine Kd.C_alloc ?_ _) | (with_reducible refine Kd.C_drewN ?_ _) | (with_reducible refine Kd.C_drew ?_))); (case side4 => exact (Kd.R_reads' HO648.out).2.1); rintro e w' ⟨rfl, ⟨nd, rfl⟩⟩))
      go_ret
      exact ⟨by first | rfl | (simp [errW_none, errW_some] <;> rfl) | (simp [*, errW_none, errW_some] <;> rfl) | (simp only [isEmpty_ne_, isEmpty_eq_]; rfl) | (simp [*, isEmpty_ne_, isEmpty_eq_]; done), by repeat (first | (with_reducible first | exact HB.out | apply below_alloc | apply pw_below_drewN | apply below_drew1) | exact HB.out)⟩
  · rw [if_neg c3] at H
    have c3b0 : (t637 == 0) = false := beq_eq_false_iff_ne.mpr c3
    have c3b1 : (t637 != 0) = true := bne_iff_ne.mpr c3
    obtain rfl := Option.some.inj H
    go_enter Tryd.func53, Tryd.ntmps53
    go_wp2_with (first | ((with_reducible refine gate_callee (f := 91) rfl ?_); refine goesL_ (some 9) rfl rfl Tryd.func91 (by kernel_rfl) rfl #[.agg #[.int .i64 2, .int .i64 0, .int .i64 0, .int .i64 0, .slice none 0 0, .bool false, .int .i64 3, .int .i64 5, .int .i64 2, .int .i64 0, .string (⟨#[]⟩ : ByteArray), .int .i64 0, .int .i64 0, .slice none 0 0]] rfl (by (try simp only [List.map_toArray, List.map_cons, List.map_nil]); first | done | rfl | (simp only [List.length_drop, List.length_take]; rfl)) ?_; (refine (logfile_Encode.callsK k 2 0 0 0 _ _ ([] : List (S50)) false 3 5 2 0 (⟨#[]⟩ : ByteArray) 0 0 _ _ ([] : List Int) t634 t637 _ ?side1 ?side2 ?side3 ?side4 ?side5 rfl rfl rfl rfl rfl nil_toList_ rfl rfl A1.out).mono ?_); (case side1 => exact Kd.C_nil _ _); (case side2 => exact Nat.le_refl _); (case side3 => exact Kd.C_nil _ _); (case side4 => exact Nat.le_refl _); (case side5 => refine GL.below HGL.out ?_; repeat (first | (with_reducible first | exact HB.out | apply below_alloc | apply pw_below_drewN | apply below_drew1) | exact HB.out)); rintro e w46 ⟨v635, rfl, ho0, hb⟩; refine ⟨_, rfl, ?_⟩; have n0_ := Aside0.mk (Kd.R_lower ho0 (below_size (by repeat (first | (with_reducible first | exact HB.out | apply below_alloc | apply pw_below_drewN | apply below_drew1) | exact HB.out)))); have n1_ := Aside0.mk (below_step (by repeat (first | (with_reducible first | exact HB.out | apply below_alloc | apply pw_below_drewN | apply below_drew1) | exact HB.out)) hb); clear HB; have HO636 := n0_; have HB := n1_; clear n0_ n1_; (try clear hb); (try clear hb2); (try clear hk); (try clear hi); (try clear ho0)) | ((with_reducible refine gate_dst (N := 14) rfl ?_); (try (refine gate_guard (by rfl) ?_; dsimp only)); refine Kd.R_lit (Kd.int .u8) _ 5 ?hg (N := 14) ?hd (xs := ([1] : List Int)) (inner := [.int .u8 1]) (ok := fun _ => True) (okp := fun _ => True) ?hr ?hp (fun _ hk => hk) trivial (Below.refl _ _) (Nat.le_refl _) (by simp) ?_; (case hd => rfl); (case hg => rfl); (case hr => first | (go_simp; done) | (go_simp; rfl)); (case hp => exact (Reps.one (show Kd.M (Kd.int .u8) _ _ _ 1 [.int .u8 1] from rfl) (Reps.none _ _))); intro v639 w47 ho48 hb hg_ hnew_; clear hg_ hnew_; (first | rw [← Ny638.out] at ho48 | (simp only [Int.reduceToNat] at ho48; rw [← Ny638.out] at ho48)); have n0_ := Aside0.mk (Kd.R_elder' (by (with_reducible repeat (first | apply Kd.R_alloc | apply Kd.R_drewN | apply Kd.R_drew)); exact HO636.out) (Kd.R_base ho48) hb); have n1_ := Aside0.mk (Kd.R_lower (Kd.R_new' ho48 (Kd.R_lt (by (with_reducible repeat (first | apply Kd.R_alloc | apply Kd.R_drewN | apply Kd.R_drew)); exact HO636.out))) (below_size (by repeat (first | (with_reducible first | exact HB.out | apply below_alloc | apply pw_below_drewN | apply below_drew1) | exact HB.out)))); have n2_ := Aside0.mk (below_step (by repeat (first | (with_reducible first | exact HB.out | apply below_alloc | apply pw_below_drewN | apply below_drew1) | exact HB.out)) hb); clear HO636; clear HB; have HO636 := n0_; have HO640 := n1_; have HB := n2_; clear n0_ n1_ n2_; clear hb ho48; obtain ⟨Ao49, co49, eo49⟩ := Kd.R_slice HO640.out; subst eo49) | ((with_reducible refine gate_callee (f := 48) rfl ?_); refine goesL_ (some 15) rfl rfl Tryd.func48 (by kernel_rfl) rfl #[.agg #[.int .u64 0, .int .u64 0], .int .u64 0, .slice Ao49 y638.length co49] rfl (by (try simp only [List.map_toArray, List.map_cons, List.map_nil]); first | done | rfl | (simp only [List.length_drop, List.length_take]; rfl)) ?_; (with_reducible refine (logfile_Frame.calls k 0 0 0 _ _ y638 t641 t644 t645 _ ?side1 ?side2 A2.out).mono ?_); (case side1 => repeat (first | exact (Kd.R_reads' HO640.out).2.2 | (with_reducible refine Kd.C_alloc ?_ _) | (with_reducible refine Kd.C_drewN ?_ _) | (with_reducible refine Kd.C_drew ?_))); (case side2 => exact (Kd.R_reads' HO640.out).2.1); rintro e w50 ⟨v642, rfl, ho0, hb⟩; refine ⟨_, rfl, ?_⟩; have n0_ := Aside0.mk (Kd.R_elder' (by (with_reducible repeat (first | apply Kd.R_alloc | apply Kd.R_drewN | apply Kd.R_drew)); exact HO636.out) (Kd.R_base ho0) hb); have n1_ := Aside0.mk (Kd.R_elder' (by (with_reducible repeat (first | apply Kd.R_alloc | apply Kd.R_drewN | apply Kd.R_drew)); exact HO640.out) (Kd.R_base ho0) hb); have n2_ := Aside0.mk (Kd.R_lower (Kd.R_new' (Kd.R_new' ho0 (Kd.R_lt (by (with_reducible repeat (first | apply Kd.R_alloc | apply Kd.R_drewN | apply Kd.R_drew)); exact HO636.out))) (Kd.R_lt (by (with_reducible repeat (first | apply Kd.R_alloc | apply Kd.R_drewN | apply Kd.R_drew)); exact HO640.out))) (below_size (by repeat (first | (with_reducible first | exact HB.out | apply below_alloc | apply pw_below_drewN | apply below_drew1) | exact HB.out)))); have n3_ := Aside0.mk (below_step (by repeat (first | (with_reducible first | exact HB.out | apply below_alloc | apply pw_below_drewN | apply below_drew1) | exact HB.out)) hb); clear HO636; clear HO640; clear HB; have HO636 := n0_; have HO640 := n1_; have HO643 := n2_; have HB := n3_; clear n0_ n1_ n2_ n3_; (try clear hb); (try clear hb2); (try clear hk); (try clear hi); (try clear ho0)))
    go_ret
    exact ⟨by first | rfl | (simp [errW_none, errW_some] <;> rfl) | (simp [*, errW_none, errW_some] <;> rfl) | (simp only [isEmpty_ne_, isEmpty_eq_]; rfl) | (simp [*, isEmpty_ne_, isEmpty_eq_]; done), by repeat (first | (with_reducible first | exact HB.out | apply below_alloc | apply pw_below_drewN | apply below_drew1) | exact HB.out)⟩
mutual
def kauditlaw25_LogfileFrames.l0 : Nat → Int → Int → Int → List (List Int) → Int → Int → Int → Int → Option (Bool)
  | 0, _, _, _, _, _, _, _, _ => none
  | k + 1, x1, x3, x4, x33, x34, x35, x651000, x651001 => if x35 < x34 then (if 0 ≤ x35 then (if x35 < (x33.length : Int) then ((logfile_Frame.f k x651000 x651001 x1 (rd_L11 x33 x35)).bind fun bt658 => ((kauditref25_Frame.f k x651000 x651001 x1 (rd_L11 x33 x35)).bind fun bt663 => (if bt658.2.2 = bt663.2.2 then (if bt658.2.1 = bt663.2.1 then ((kauditref24_SameBytes.f bt658.1 bt663.1).bind fun t668 => (if t668 = true then (kauditlaw25_LogfileFrames.l0 k x1 x3 x4 x33 x34 (wrap64 (x35 + 1)) x651000 x651001) else (some false))) else (some false)) else (some false)))) else (none)) else (none)) else ((some (([x3, wrap64 (1 + (Int.tmod (wrap64 (x4)) 1000)), 0, 1001] : List Int) : List Int)).bind fun y669 => (kauditlaw25_LogfileFrames.l1 k x1 y669 (y669.length : Int) 0 x651000 x651001))
def kauditlaw25_LogfileFrames.l1 : Nat → Int → List Int → Int → Int → Int → Int → Option (Bool)
  | 0, _, _, _, _, _, _ => none
  | k + 1, x1, x75, x76, x77, x651000, x651001 => if x77 < x76 then (if 0 ≤ x77 then (if x77 < (x75.length : Int) then ((logfile_Head.f k x651000 x651001 (rd x75 x77) x1).bind fun bt674 => ((kauditref25_Head.f k x651000 x651001 (rd x75 x77) x1).bind fun bt679 => (if bt674.2.2 = bt679.2.2 then (if bt674.2.1 = bt679.2.1 then ((kauditref24_SameBytes.f bt674.1 bt679.1).bind fun t684 => (if t684 = true then (kauditlaw25_LogfileFrames.l1 k x1 x75 x76 (wrap64 (x77 + 1)) x651000 x651001) else (some false))) else (some false)) else (some false)))) else (none)) else (none)) else ((kauditlaw25_begun.f k).bind fun t672 => (some t672))
end
def kauditlaw25_LogfileFrames.f (k : Nat) (a0_0 : Int) (a0_1 : Int) (a1 : Int) (l2 : List Int) (a3 : Int) (a4 : Int) : Option (Bool) := if 0 ≤ (wrap64 (16382 + (Int.tmod (wrap64 (a4)) 5))) then (if (wrap64 (16382 + (Int.tmod (wrap64 (a4)) 5)) : Int).toNat ≤ 281474976710656 then ((some (([l2, [], (List.replicate (wrap64 (16382 + (Int.tmod (wrap64 (a4)) 5)) : Int).toNat 0)] : List (List Int)) : List (List Int))).bind fun y654 => (kauditlaw25_LogfileFrames.l0 k a1 a3 a4 y654 (y654.length : Int) 0 a0_0 a0_1)) else (none)) else (none)
theorem kauditlaw25_LogfileFrames.mono_l : ∀ k, (∀ y0 y1 y2 y3 y4 y5 y6 y7, LeO (kauditlaw25_LogfileFrames.l0 k y0 y1 y2 y3 y4 y5 y6 y7) (kauditlaw25_LogfileFrames.l0 (k + 1) y0 y1 y2 y3 y4 y5 y6 y7)) ∧ (∀ y0 y1 y2 y3 y4 y5, LeO (kauditlaw25_LogfileFrames.l1 k y0 y1 y2 y3 y4 y5) (kauditlaw25_LogfileFrames.l1 (k + 1) y0 y1 y2 y3 y4 y5))
  | 0 => ⟨fun _ _ _ _ _ _ _ _ r h => by simp [kauditlaw25_LogfileFrames.l0] at h, fun _ _ _ _ _ _ r h => by simp [kauditlaw25_LogfileFrames.l1] at h⟩
  | k + 1 => by
    obtain ⟨ih0, ih1⟩ := kauditlaw25_LogfileFrames.mono_l k
    refine ⟨?_, ?_⟩
    · intro y0 y1 y2 y3 y4 y5 y6 y7
      unfold kauditlaw25_LogfileFrames.l0
      repeat' first
      | (with_reducible exact ih0 _ _ _ _ _ _ _ _)
      | (with_reducible exact ih1 _ _ _ _ _ _)
      | (with_reducible exact kauditlaw25_begun.mono _)
      | (with_reducible exact kauditref25_Frame.mono _ _ _ _ _)
      | (with_reducible exact kauditref25_Head.mono _ _ _ _ _)
      | (with_reducible exact logfile_Frame.mono _ _ _ _ _)
      | (with_reducible exact logfile_Head.mono _ _ _ _ _)
      | (with_reducible exact LeO.refl _)
      | (with_reducible exact LeO.none _)
      | (with_reducible refine LeO.ite ?_ ?_)
      | (with_reducible refine LeO.bind ?_ (fun _ => ?_))
      | exact ih0 _ _ _ _ _ _ _ _
      | exact ih1 _ _ _ _ _ _
      | exact kauditlaw25_begun.mono _
      | exact kauditref25_Frame.mono _ _ _ _ _
      | exact kauditref25_Head.mono _ _ _ _ _
      | exact logfile_Frame.mono _ _ _ _ _
      | exact logfile_Head.mono _ _ _ _ _
      | exact LeO.none _
      | refine LeO.ite ?_ ?_
      | refine LeO.bind ?_ (fun _ => ?_)
    · intro y0 y1 y2 y3 y4 y5
      unfold kauditlaw25_LogfileFrames.l1
      repeat' first
      | (with_reducible exact ih0 _ _ _ _ _ _ _ _)
      | (with_reducible exact ih1 _ _ _ _ _ _)
      | (with_reducible exact kauditlaw25_begun.mono _)
      | (with_reducible exact kauditref25_Frame.mono _ _ _ _ _)
      | (with_reducible exact kauditref25_Head.mono _ _ _ _ _)
      | (with_reducible exact logfile_Frame.mono _ _ _ _ _)
      | (with_reducible exact logfile_Head.mono _ _ _ _ _)
      | (with_reducible exact LeO.refl _)
      | (with_reducible exact LeO.none _)
      | (with_reducible refine LeO.ite ?_ ?_)
      | (with_reducible refine LeO.bind ?_ (fun _ => ?_))
      | exact ih0 _ _ _ _ _ _ _ _
      | exact ih1 _ _ _ _ _ _
      | exact kauditlaw25_begun.mono _
      | exact kauditref25_Frame.mono _ _ _ _ _
      | exact kauditref25_Head.mono _ _ _ _ _
      | exact logfile_Frame.mono _ _ _ _ _
      | exact logfile_Head.mono _ _ _ _ _
      | exact LeO.none _
      | refine LeO.ite ?_ ?_
      | refine LeO.bind ?_ (fun _ => ?_)
theorem kauditlaw25_LogfileFrames.mono : ∀ a0 a1 a2 a3 a4 a5 k, LeO (kauditlaw25_LogfileFrames.f k a0 a1 a2 a3 a4 a5) (kauditlaw25_LogfileFrames.f (k + 1) a0 a1 a2 a3 a4 a5) := by
  intro a0 a1 a2 a3 a4 a5 k
  obtain ⟨ih0, ih1⟩ := kauditlaw25_LogfileFrames.mono_l k
  unfold kauditlaw25_LogfileFrames.f
  repeat' first
      | (with_reducible exact ih0 _ _ _ _ _ _ _ _)
      | (with_reducible exact ih1 _ _ _ _ _ _)
      | (with_reducible exact kauditlaw25_begun.mono _)
      | (with_reducible exact kauditref25_Frame.mono _ _ _ _ _)
      | (with_reducible exact kauditref25_Head.mono _ _ _ _ _)
      | (with_reducible exact logfile_Frame.mono _ _ _ _ _)
      | (with_reducible exact logfile_Head.mono _ _ _ _ _)
      | (with_reducible exact LeO.refl _)
      | (with_reducible exact LeO.none _)
      | (with_reducible refine LeO.ite ?_ ?_)
      | (with_reducible refine LeO.bind ?_ (fun _ => ?_))
      | exact ih0 _ _ _ _ _ _ _ _
      | exact ih1 _ _ _ _ _ _
      | exact kauditlaw25_begun.mono _
      | exact kauditref25_Frame.mono _ _ _ _ _
      | exact kauditref25_Head.mono _ _ _ _ _
      | exact logfile_Frame.mono _ _ _ _ _
      | exact logfile_Head.mono _ _ _ _ _
      | exact LeO.none _
      | refine LeO.ite ?_ ?_
      | refine LeO.bind ?_ (fun _ => ?_)
set_option maxHeartbeats 8000000 in
set_option maxRecDepth 100000 in
theorem kauditlaw25_LogfileFrames.calls (k : Nat) (a0_0 : Int) (a0_1 : Int) (a1 : Int) (P2_ : Nat → Prop) (A2 : Option Addr) (c2 : Nat) (l2 : List Int) (a3 : Int) (a4 : Int) (r : Bool) (w : World) (hs2 : Kd.V (Kd.int .u8) 5 w w.heap.size (fun k_ => P2_ k_) (.slice A2 l2.length c2) l2) (hG : GL w) (h : kauditlaw25_LogfileFrames.f k a0_0 a0_1 a1 l2 a3 a4 = some r) :
    Calls Tryd.prog 10 #[.agg #[.int .u64 a0_0, .int .u64 a0_1], .int .u64 a1, .slice A2 l2.length c2, .int .i64 a3, .int .u16 a4] w fun e w' => e = .returned (.bool r) ∧ Below w.heap.size w w' := by
  have hu69 := Tryd.underlying69
  have HO2 := Aside0.mk (show Kd.V (Kd.int .u8) 5 w w.heap.size (fun k_ => (P2_ k_ ∨ w.heap.size ≤ k_)) (.slice A2 l2.length c2) l2 from Kd.V_mono hs2 (fun k_ hk => .inl hk))
  have HB := Aside0.mk (Below.refl w.heap.size w)
  have HGL := Aside0.mk hG
  clear hG
  have H : (if 0 ≤ (wrap64 (16382 + (Int.tmod (wrap64 (a4)) 5))) then (if (wrap64 (16382 + (Int.tmod (wrap64 (a4)) 5)) : Int).toNat ≤ 281474976710656 then ((some (([l2, [], (List.replicate (wrap64 (16382 + (Int.tmod (wrap64 (a4)) 5)) : Int).toNat 0)] : List (List Int)) : List (List Int))).bind fun y654 => (kauditlaw25_LogfileFrames.l0 k a1 a3 a4 y654 (y654.length : Int) 0 a0_0 a0_1)) else (none)) else (none)) = some r := h
  clear h
  obtain ⟨ji6, hji6⟩ : ∃ j_ : Int, (wrap64 (16382 + (Int.tmod (wrap64 (a4)) 5))) = j_ := ⟨_, rfl⟩
  replace H : (if 0 ≤ (ji6) then (if (ji6 : Int).toNat ≤ 281474976710656 then ((some (([l2, [], (List.replicate (ji6 : Int).toNat 0)] : List (List Int)) : List (List Int))).bind fun y654 => (kauditlaw25_LogfileFrames.l0 k a1 a3 a4 y654 (y654.length : Int) 0 a0_0 a0_1)) else (none)) else (none)) = some r := by first | (rw [hji6] at H; exact H) | (simp only [hji6] at H ⊢; exact H)
  have hji6w : (IntKind.i64.wrap (16382 + (Int.tmod (wrap64 (a4)) 5))) = ji6 := (i64_w _).trans hji6
  by_cases c7 : 0 ≤ (ji6)
  · rw [if_pos c7] at H
    have c7b0 := eq_true c7
    have c7b1 : decide (0 ≤ (ji6)) = true := decide_eq_true c7
    clear c7
    by_cases c8 : (ji6 : Int).toNat ≤ 281474976710656
    · rw [if_pos c8] at H
      have c8b0 := eq_true c8
      have c8b1 : decide ((ji6 : Int).toNat ≤ 281474976710656) = true := decide_eq_true c8
      clear c8
      obtain ⟨y651, hy651⟩ : ∃ y_ : List Int, y_ = (List.replicate (ji6 : Int).toNat 0) := ⟨_, rfl⟩
      replace H : ((some (([l2, [], y651] : List (List Int)) : List (List Int))).bind fun y654 => (kauditlaw25_LogfileFrames.l0 k a1 a3 a4 y654 (y654.length : Int) 0 a0_0 a0_1)) = some r := by first | (rw [hy651]; with_reducible exact H) | (have H2_ := (Option.bind_some _ _).symm.trans H; rw [hy651]; with_reducible exact H2_) | (have H2_ := (Option.bind_some _ _).symm.trans H; with_reducible exact H2_) | with_reducible exact H | (rw [hy651]; exact H) | exact H
      have Ny651 := Aside0.mk hy651
      clear hy651
      obtain ⟨y654, hy654⟩ : ∃ y_ : List (List Int), y_ = (([l2, [], y651] : List (List Int))) := ⟨_, rfl⟩
      replace H : (kauditlaw25_LogfileFrames.l0 k a1 a3 a4 y654 (y654.length : Int) 0 a0_0 a0_1) = some r := by first | (rw [hy654]; with_reducible exact H) | (have H2_ := (Option.bind_some _ _).symm.trans H; rw [hy654]; with_reducible exact H2_) | (have H2_ := (Option.bind_some _ _).symm.trans H; with_reducible exact H2_) | with_reducible exact H | (rw [hy654]; exact H) | exact H
      have Ny654 := Aside0.mk hy654
      clear hy654
      have H' := Aside0.mk H
      clear H
      go_enter Tryd.func10, Tryd.ntmps10
      go_wp2_with (first | ((with_reducible refine gate_dst (N := 5) rfl ?_); refine box_event ?hg (N := 5) ?hd (cs := #[.int .u64 a0_0, .int .u64 a0_1]) (t := 69) ?hr ?_; (case hd => rfl); (case hg => rfl); (case hr => first | (go_simp; done) | (go_simp; rfl)); intro gb650 hg w9 hbox hb; have n0_ := Aside0.mk (Kd.V_below (Kd.V_elderB (by (with_reducible repeat (first | apply Kd.V_alloc | apply Kd.V_drewN | apply Kd.V_drew)); exact HO2.out) gb650 (Nat.le_of_eq hg.symm)) hb); have n1_ := Aside0.mk (below_step (by repeat (first | (with_reducible first | exact HB.out | apply below_alloc | apply pw_below_drewN | apply below_drew1) | exact HB.out)) hb); have n2_ := Aside0.mk (hbox); have n3_ := Aside0.mk ((by rw [hg]; exact (below_size (by repeat (first | (with_reducible first | exact HB.out | apply below_alloc | apply pw_below_drewN | apply below_drew1) | exact HB.out))) : w.heap.size ≤ gb650)); have n4_ := Aside0.mk ((by rw [hg]; exact (below_size (by repeat (first | (with_reducible first | exact HB.out | apply below_alloc | apply pw_below_drewN | apply below_drew1) | exact HB.out))) : w.heap.size ≤ gb650)); clear HO2; clear HB; have HO2 := n0_; have HB := n1_; have BK650 := n2_; have GW650 := n3_; have GE650 := n4_; clear n0_ n1_ n2_ n3_ n4_; clear hb hbox hg) | ((with_reducible refine gate_dst (N := 32) rfl ?_); refine Kd.R_make (Kd.int .u8) _ 5 rfl (N := 32) rfl 22 _ _ rfl ji6 rfl rfl Tryd.underlying22 (.int .u8 0) 1 info5 rfl (by decide) (by omega) 0 (ok := fun _ => True) (okp := fun _ => True) rfl (fun _ hk => hk) trivial (of_decide_eq_true (by first | (with_reducible assumption) | assumption)) (Nat.le_trans (Nat.mul_le_mul_right _ (of_decide_eq_true (by first | (with_reducible assumption) | assumption) : ji6.toNat ≤ 281474976710656)) (by omega)) (Below.refl _ _) (Nat.le_refl _) ?_; intro v652 w10 ho11 hb hg_ hnew_; clear hg_ hnew_; (first | rw [← Ny651.out] at ho11 | (simp only [Int.reduceToNat] at ho11; rw [← Ny651.out] at ho11)); have n0_ := Aside0.mk (Kd.V_elder' (by (with_reducible repeat (first | apply Kd.V_alloc | apply Kd.V_drewN | apply Kd.V_drew)); exact HO2.out) (Kd.R_base ho11) hb); have n1_ := Aside0.mk (Kd.R_lower (Kd.R_newM (M := fun k_ => (w.heap.size ≤ k_)) ho11 (below_size (by repeat (first | (with_reducible first | exact HB.out | apply below_alloc | apply pw_below_drewN | apply below_drew1 | refine below_set ?_ GE650.out) | exact HB.out))) (fun k_ h_ => h_)) (below_size (by repeat (first | (with_reducible first | exact HB.out | apply below_alloc | apply pw_below_drewN | apply below_drew1 | refine below_set ?_ GE650.out) | exact HB.out)))); have n2_ := Aside0.mk (blk_below (g := gb650) (o := .cells #[.int .u64 a0_0, .int .u64 a0_1] 69 (0, 0)) (by (with_reducible repeat (first | refine blk_drewN ?_ _ | refine blk_drew ?_ | refine blk_alloc ?_ _)); exact BK650.out) hb); have n3_ := Aside0.mk (below_step (by repeat (first | (with_reducible first | exact HB.out | apply below_alloc | apply pw_below_drewN | apply below_drew1 | refine below_set ?_ GE650.out) | exact HB.out)) hb); clear HO2; clear BK650; clear HB; have HO2 := n0_; have HO653 := n1_; have BK650 := n2_; have HB := n3_; clear n0_ n1_ n2_ n3_; clear hb ho11; obtain ⟨Ao12, co12, eo12⟩ := Kd.R_slice HO653.out; subst eo12) | ((with_reducible refine gate_dst (N := 33) rfl ?_); refine Kd.N_lit (Kd.slice 5 (Kd.int .u8)) _ 22 ?hg (N' := 33) ?hd (xs := ([l2, [], y651] : List (List Int))) (inner := [.slice A2 l2.length c2, .slice none 0 0, .slice Ao12 y651.length co12]) (ok := (fun k_ => (P2_ k_ ∨ w.heap.size ≤ k_) ∧ k_ ≠ gb650)) (okp := (fun k_ => (P2_ k_ ∨ w.heap.size ≤ k_) ∧ k_ ≠ gb650)) ?hr ?hp (fun _ hk => hk) ((show ∀ k_, w10.heap.size ≤ k_ → (fun k_ => (P2_ k_ ∨ w.heap.size ≤ k_) ∧ k_ ≠ gb650) k_ from fun k_ hk => ⟨(.inr (Nat.le_trans (below_size (by repeat (first | (with_reducible first | exact HB.out | apply below_alloc | apply pw_below_drewN | apply below_drew1 | refine below_set ?_ GE650.out) | exact HB.out))) hk)), Kd.freshB (g := gb650) (o := .cells #[.int .u64 a0_0, .int .u64 a0_1] 69 (0, 0)) (by (with_reducible repeat (first | refine blk_drewN ?_ _ | refine blk_drew ?_ | refine blk_alloc ?_ _)); exact BK650.out) k_ hk⟩) _ (Nat.le_refl _)) (Below.refl _ _) (Nat.le_refl _) (by simp) ?_; (case hd => rfl); (case hg => rfl); (case hr => first | (go_simp; done) | (go_simp; rfl)); (case hp => exact (Reps.one (show Kd.FK (Kd.slice 5 (Kd.int .u8)) _ _ l2 [.slice A2 l2.length c2] from (Kd.FK_slice_mk (Kd.V_reads' (Kd.V_mono (ok' := (fun k_ => (P2_ k_ ∨ w.heap.size ≤ k_) ∧ k_ ≠ gb650)) (HO2.out) (fun k_ hk => ⟨hk.1.1, hk.1.2⟩))).2.1 (Kd.V_F (Kd.V_mono (ok' := (fun k_ => (P2_ k_ ∨ w.heap.size ≤ k_) ∧ k_ ≠ gb650)) (HO2.out) (fun k_ hk => ⟨hk.1.1, hk.1.2⟩))))) (Reps.one (show Kd.FK (Kd.slice 5 (Kd.int .u8)) _ _ [] [.slice none 0 0] from (Kd.FK_slice_mk (Nat.le_refl _) (Kd.F_nil _ _ _))) (Reps.one (show Kd.FK (Kd.slice 5 (Kd.int .u8)) _ _ y651 [.slice Ao12 y651.length co12] from (Kd.FK_slice_mk (Kd.R_reads' (Kd.R_mono (ok' := (fun k_ => (P2_ k_ ∨ w.heap.size ≤ k_) ∧ k_ ≠ gb650)) (Kd.R_types (HO653.out) BK650.out (by decide)) (fun k_ hk => ⟨(.inr (hk.1.1)), hk.2⟩))).2.1 (Kd.R_F (Kd.R_mono (ok' := (fun k_ => (P2_ k_ ∨ w.heap.size ≤ k_) ∧ k_ ≠ gb650)) (Kd.R_types (HO653.out) BK650.out (by decide)) (fun k_ hk => ⟨(.inr (hk.1.1)), hk.2⟩))))) (Reps.none _ _))))); intro v655 w13 ho14 hb hg_ hnew_; clear hg_ hnew_; (first | rw [← Ny654.out] at ho14 | (simp only [Int.reduceToNat] at ho14; rw [← Ny654.out] at ho14)); have n0_ := Aside0.mk (Kd.V_elder' (by (with_reducible repeat (first | apply Kd.V_alloc | apply Kd.V_drewN | apply Kd.V_drew)); exact HO2.out) (Kd.N_base ho14) hb); have n1_ := Aside0.mk (Kd.N_lower ho14 (below_size (by repeat (first | (with_reducible first | exact HB.out | apply below_alloc | apply pw_below_drewN | apply below_drew1 | refine below_set ?_ GE650.out) | exact HB.out)))); have n2_ := Aside0.mk (blk_below (g := gb650) (o := .cells #[.int .u64 a0_0, .int .u64 a0_1] 69 (0, 0)) (by (with_reducible repeat (first | refine blk_drewN ?_ _ | refine blk_drew ?_ | refine blk_alloc ?_ _)); exact BK650.out) hb); have n3_ := Aside0.mk (below_step (by repeat (first | (with_reducible first | exact HB.out | apply below_alloc | apply pw_below_drewN | apply below_drew1 | refine below_set ?_ GE650.out) | exact HB.out)) hb); clear HO2; clear BK650; clear HB; clear HO653; have HO2 := n0_; have HO656 := n1_; have BK650 := n2_; have HB := n3_; clear n0_ n1_ n2_ n3_; clear hb ho14; obtain ⟨Ao15, co15, eo15⟩ := Kd.N_slice HO656.out; subst eo15))
      go_loopg [35] k (fun kq v35 w' => ∃ (x35_1 : Int), v35 = .int .i64 x35_1 ∧ Aside0 (kauditlaw25_LogfileFrames.l0 kq a1 a3 a4 y654 (y654.length : Int) x35_1 a0_0 a0_1 = some r) ∧ Aside0 (kq ≤ k) ∧ Aside0 (Kd.N (Kd.slice 5 (Kd.int .u8)) 22 w' w.heap.size (fun k_ => (P2_ k_ ∨ w.heap.size ≤ k_) ∧ k_ ≠ gb650) (.slice Ao15 y654.length co15) y654) ∧ Aside0 (w'.heap[gb650]? = some (.cells #[.int .u64 a0_0, .int .u64 a0_1] 69 (0, 0))) ∧ Aside0 (Below w.heap.size w w'))
      case atStart => exact ⟨(0), (by first | rfl | (simp; done) | (simp [*]; done) | (simp only [isEmpty_ne_]; done)), (by first | exact H' | ((try subst hji6); exact H')), ⟨Nat.le_refl _⟩, ⟨by (with_reducible repeat (first | apply Kd.N_alloc | apply Kd.N_drewN | apply Kd.N_drew)); exact HO656.out⟩, ⟨by (with_reducible repeat (first | refine blk_drewN ?_ _ | refine blk_drew ?_ | refine blk_alloc ?_ _)); exact BK650.out⟩, ⟨by repeat (first | (with_reducible first | exact HB.out | apply below_alloc | apply pw_below_drewN | apply below_drew1 | refine below_set ?_ GE650.out) | exact HB.out)⟩⟩
      case round =>
        clear H'
        try clear c1
        try clear c2
        try clear p2
        try clear p6
        try clear c7
        try clear c7b0
        try clear c7b1
        try clear c8
        try clear c8b0
        try clear c8b1
        try clear c10
        obtain ⟨x35_1, rfl, HA, HK1, HO_33, BK650, HB⟩ := hrel
        cases gk with
        | zero => exact absurd HA.out (by simp [kauditlaw25_LogfileFrames.l0])
        | succ k1 =>
          have H := HA.out
          clear HA
          simp only [kauditlaw25_LogfileFrames.l0] at H
          by_cases c16 : x35_1 < (y654.length : Int)
          · rw [if_pos c16] at H
            have c16b0 : decide (x35_1 < (y654.length : Int)) = true := decide_eq_true c16
            clear c16
            by_cases c17 : 0 ≤ x35_1
            · rw [if_pos c17] at H
              have c17b0 : decide (0 ≤ x35_1) = true := decide_eq_true c17
              clear c17
              by_cases c18 : x35_1 < (y654.length : Int)
              · rw [if_pos c18] at H
                have c18b0 : decide (x35_1 < (y654.length : Int)) = true := decide_eq_true c18
                clear c18
                replace H := Option.bind_eq_some_iff.mp H
                obtain ⟨⟨t658, t661, t662⟩, A190, H⟩ := H
                replace H : ((kauditref25_Frame.f k1 a0_0 a0_1 a1 (rd_L11 y654 x35_1)).bind fun bt663 => (if t662 = bt663.2.2 then (if t661 = bt663.2.1 then ((kauditref24_SameBytes.f t658 bt663.1).bind fun t668 => (if t668 = true then (kauditlaw25_LogfileFrames.l0 k1 a1 a3 a4 y654 (y654.length : Int) (wrap64 (x35_1 + 1)) a0_0 a0_1) else (some false))) else (some false)) else (some false))) = some r := H
                have A19 := Aside0.mk A190
                clear A190
                replace H := Option.bind_eq_some_iff.mp H
                obtain ⟨⟨t663, t666, t667⟩, A200, H⟩ := H
                replace H : (if t662 = t667 then (if t661 = t666 then ((kauditref24_SameBytes.f t658 t663).bind fun t668 => (if t668 = true then (kauditlaw25_LogfileFrames.l0 k1 a1 a3 a4 y654 (y654.length : Int) (wrap64 (x35_1 + 1)) a0_0 a0_1) else (some false))) else (some false)) else (some false)) = some r := H
                have A20 := Aside0.mk A200
                clear A200
                by_cases c21 : t662 = t667
                · rw [if_pos c21] at H
                  have c21b0 : (t662 == t667) = true := beq_iff_eq.mpr c21
                  have c21b1 : (t662 != t667) = false := bne_eq_false_iff_eq.mpr c21
                  clear c21
                  by_cases c22 : t661 = t666
                  · rw [if_pos c22] at H
                    have c22b0 : (t661 == t666) = true := beq_iff_eq.mpr c22
                    have c22b1 : (t661 != t666) = false := bne_eq_false_iff_eq.mpr c22
                    clear c22
                    replace H := Option.bind_eq_some_iff.mp H
                    obtain ⟨t668, A230, H⟩ := H
                    replace H : (if t668 = true then (kauditlaw25_LogfileFrames.l0 k1 a1 a3 a4 y654 (y654.length : Int) (wrap64 (x35_1 + 1)) a0_0 a0_1) else (some false)) = some r := H
                    have A23 := Aside0.mk A230
                    clear A230
                    by_cases c24 : t668 = true
                    · subst c24
                      have H1 : (kauditlaw25_LogfileFrames.l0 k1 a1 a3 a4 y654 (y654.length : Int) (wrap64 (x35_1 + 1)) a0_0 a0_1) = some r := by rw [if_pos rfl] at H; exact H
                      clear H
                      have H := H1
                      clear H1
                      have H' := Aside0.mk H
                      clear H
                      have p657 : 0 ≤ (x35_1 : Int) := of_decide_eq_true (by first | (with_reducible assumption) | assumption)
                      have q657 : x35_1 < (y654.length : Int) := of_decide_eq_true (by first | (with_reducible assumption) | assumption)
                      obtain ⟨ad657, A657_0, c657_0, e657, hx657_0, hl657_0, hi657_0⟩ := at_L11 (Kd.N_reads' HO_33.out).2.2 x35_1 p657 q657
                      cases e657
                      obtain ⟨ce657, hce657, hMe657, hcc657⟩ := Kd.N_get HO_33.out [] x35_1 p657 (by first | exact q657 | exact of_decide_eq_true (by first | (with_reducible assumption) | assumption) | (have e_ := (Kd.N_reads' HO_33.out).1; omega))
                      obtain ⟨ua657_0, uc657_0, rfl, ul657_0, ge657_0⟩ := Kd.FK_slice_open hMe657
                      have hv657_0 := hcc657 0 _ rfl
                      rw [Nat.add_zero, show ((Kd.slice 5 (Kd.int .u8))).sz = 1 from rfl, Nat.mul_one] at hv657_0
                      replace hv657_0 := Option.some.inj (hv657_0.symm.trans hx657_0)
                      injection hv657_0 with hva_ hvn_ hvc_
                      rw [hva_] at ge657_0
                      rw [hvc_] at ul657_0
                      have HL657_0 := Aside0.mk (show Kd.V (Kd.int .u8) 5 _ w.heap.size _ _ (rd_L11 y654 x35_1) from Kd.V_mk ul657_0 ge657_0)
                      clear hva_ hvn_ hvc_ ge657_0 ul657_0
                      clear hcc657 hce657
                      have HR657_0 := Aside0.mk hi657_0
                      have HC657_0 := Aside0.mk hl657_0
                      clear hi657_0 hl657_0
                      replace p657 := eq_true p657
                      replace q657 := eq_true q657
                      have hcz25_0 : wr.cell? ⟨gb650, 0, none⟩ = some (.int .u64 a0_0) := (blk_cell BK650.out 0).trans rfl
                      have hcz25_1 : wr.cell? ⟨gb650, 1, none⟩ = some (.int .u64 a0_1) := (blk_cell BK650.out 1).trans rfl
                      have hfz25_0 := blk_frozen BK650.out 0
                      have hfz25_1 := blk_frozen BK650.out 1
                      go_wp2_with (first | ((with_reducible refine gate_callee (f := 48) rfl ?_); refine goesL_ (some 43) rfl rfl Tryd.func48 (by kernel_rfl) rfl #[.agg #[.int .u64 a0_0, .int .u64 a0_1], .int .u64 a1, .slice A657_0 (rd_L11 y654 x35_1).length c657_0] rfl (by (try simp only [List.map_toArray, List.map_cons, List.map_nil]); first | done | rfl | (simp only [List.length_drop, List.length_take]; rfl)) ?_; (with_reducible refine (logfile_Frame.calls k1 a0_0 a0_1 a1 _ _ (rd_L11 y654 x35_1) t658 t661 t662 _ ?side1 ?side2 A19.out).mono ?_); (case side1 => repeat (first | exact (by repeat (first | (with_reducible exact HR657_0.out) | (with_reducible refine Kd.C_alloc ?_ _) | (with_reducible refine Kd.C_drewN ?_ _) | (with_reducible refine Kd.C_drew ?_) | exact HR657_0.out)) | (with_reducible refine Kd.C_alloc ?_ _) | (with_reducible refine Kd.C_drewN ?_ _) | (with_reducible refine Kd.C_drew ?_))); (case side2 => exact HC657_0.out); rintro e w26 ⟨v659, rfl, ho0, hb⟩; refine ⟨_, rfl, ?_⟩; have n0_ := Aside0.mk (Kd.N_elder' (by (with_reducible repeat (first | apply Kd.N_alloc | apply Kd.N_drewN | apply Kd.N_drew)); exact HO_33.out) (Kd.R_base ho0) hb); have n1_ := Aside0.mk (Kd.V_elder' (by (with_reducible repeat (first | apply Kd.V_alloc | apply Kd.V_drewN | apply Kd.V_drew)); exact HL657_0.out) (Kd.R_base ho0) hb); have n2_ := Aside0.mk (Kd.R_lower (Kd.R_newM (M := fun k_ => (w.heap.size ≤ k_)) ho0 (below_size (by repeat (first | (with_reducible first | exact HB.out | apply below_alloc | apply pw_below_drewN | apply below_drew1 | refine below_set ?_ GE650.out) | exact HB.out))) (fun k_ h_ => h_)) (below_size (by repeat (first | (with_reducible first | exact HB.out | apply below_alloc | apply pw_below_drewN | apply below_drew1 | refine below_set ?_ GE650.out) | exact HB.out)))); have n3_ := Aside0.mk (blk_below (g := gb650) (o := .cells #[.int .u64 a0_0, .int .u64 a0_1] 69 (0, 0)) (by (with_reducible repeat (first | refine blk_drewN ?_ _ | refine blk_drew ?_ | refine blk_alloc ?_ _)); exact BK650.out) hb); have n4_ := Aside0.mk (Kd.C_below (by repeat (first | (with_reducible exact HR657_0.out) | (with_reducible refine Kd.C_alloc ?_ _) | (with_reducible refine Kd.C_drewN ?_ _) | (with_reducible refine Kd.C_drew ?_) | exact HR657_0.out)) hb); have n5_ := Aside0.mk (below_step (by repeat (first | (with_reducible first | exact HB.out | apply below_alloc | apply pw_below_drewN | apply below_drew1 | refine below_set ?_ GE650.out) | exact HB.out)) hb); clear HO_33; clear HL657_0; clear BK650; clear HR657_0; clear HB; have HO_33 := n0_; have HL657_0 := n1_; have HO660 := n2_; have BK650 := n3_; have HR657_0 := n4_; have HB := n5_; clear n0_ n1_ n2_ n3_ n4_ n5_; (try clear hb); (try clear hb2); (try clear hk); (try clear hi); (try clear ho0); have hcz27_0 : w26.cell? ⟨gb650, 0, none⟩ = some (.int .u64 a0_0) := (blk_cell BK650.out 0).trans rfl; have hcz27_1 : w26.cell? ⟨gb650, 1, none⟩ = some (.int .u64 a0_1) := (blk_cell BK650.out 1).trans rfl; have hfz27_0 := blk_frozen BK650.out 0; have hfz27_1 := blk_frozen BK650.out 1) | ((with_reducible refine gate_callee (f := 49) rfl ?_); refine goesL_ (some 51) rfl rfl Tryd.func49 (by kernel_rfl) rfl #[.agg #[.int .u64 a0_0, .int .u64 a0_1], .int .u64 a1, .slice A657_0 (rd_L11 y654 x35_1).length c657_0] rfl (by (try simp only [List.map_toArray, List.map_cons, List.map_nil]); first | done | rfl | (simp only [List.length_drop, List.length_take]; rfl)) ?_; (with_reducible refine (kauditref25_Frame.calls k1 a0_0 a0_1 a1 _ _ (rd_L11 y654 x35_1) t663 t666 t667 _ ?side1 ?side2 A20.out).mono ?_); (case side1 => repeat (first | exact (by repeat (first | (with_reducible exact HR657_0.out) | (with_reducible refine Kd.C_alloc ?_ _) | (with_reducible refine Kd.C_drewN ?_ _) | (with_reducible refine Kd.C_drew ?_) | exact HR657_0.out)) | (with_reducible refine Kd.C_alloc ?_ _) | (with_reducible refine Kd.C_drewN ?_ _) | (with_reducible refine Kd.C_drew ?_))); (case side2 => exact HC657_0.out); rintro e w28 ⟨v664, rfl, ho0, hb⟩; refine ⟨_, rfl, ?_⟩; have n0_ := Aside0.mk (Kd.N_elder' (by (with_reducible repeat (first | apply Kd.N_alloc | apply Kd.N_drewN | apply Kd.N_drew)); exact HO_33.out) (Kd.R_base ho0) hb); have n1_ := Aside0.mk (Kd.V_elder' (by (with_reducible repeat (first | apply Kd.V_alloc | apply Kd.V_drewN | apply Kd.V_drew)); exact HL657_0.out) (Kd.R_base ho0) hb); have n2_ := Aside0.mk (Kd.R_elder' (by (with_reducible repeat (first | apply Kd.R_alloc | apply Kd.R_drewN | apply Kd.R_drew)); exact HO660.out) (Kd.R_base ho0) hb); have n3_ := Aside0.mk (Kd.R_lower (Kd.R_new' (Kd.R_newM (M := fun k_ => (w.heap.size ≤ k_)) ho0 (below_size (by repeat (first | (with_reducible first | exact HB.out | apply below_alloc | apply pw_below_drewN | apply below_drew1 | refine below_set ?_ GE650.out) | exact HB.out))) (fun k_ h_ => h_)) (Kd.R_lt (by (with_reducible repeat (first | apply Kd.R_alloc | apply Kd.R_drewN | apply Kd.R_drew)); exact HO660.out))) (below_size (by repeat (first | (with_reducible first | exact HB.out | apply below_alloc | apply pw_below_drewN | apply below_drew1 | refine below_set ?_ GE650.out) | exact HB.out)))); have n4_ := Aside0.mk (blk_below (g := gb650) (o := .cells #[.int .u64 a0_0, .int .u64 a0_1] 69 (0, 0)) (by (with_reducible repeat (first | refine blk_drewN ?_ _ | refine blk_drew ?_ | refine blk_alloc ?_ _)); exact BK650.out) hb); have n5_ := Aside0.mk (Kd.C_below (by repeat (first | (with_reducible exact HR657_0.out) | (with_reducible refine Kd.C_alloc ?_ _) | (with_reducible refine Kd.C_drewN ?_ _) | (with_reducible refine Kd.C_drew ?_) | exact HR657_0.out)) hb); have n6_ := Aside0.mk (below_step (by repeat (first | (with_reducible first | exact HB.out | apply below_alloc | apply pw_below_drewN | apply below_drew1 | refine below_set ?_ GE650.out) | exact HB.out)) hb); clear HO_33; clear HL657_0; clear HO660; clear BK650; clear HR657_0; clear HB; have HO_33 := n0_; have HL657_0 := n1_; have HO660 := n2_; have HO665 := n3_; have BK650 := n4_; have HR657_0 := n5_; have HB := n6_; clear n0_ n1_ n2_ n3_ n4_ n5_ n6_; (try clear hb); (try clear hb2); (try clear hk); (try clear hi); (try clear ho0); obtain ⟨Ao29, co29, eo29⟩ := Kd.R_slice HO660.out; subst eo29; obtain ⟨Ao30, co30, eo30⟩ := Kd.R_slice HO665.out; subst eo30) | (go_at_call 50; (with_reducible refine (kauditref24_SameBytes.calls _ _ t658 _ _ t663 true _ ?side1 ?side2 ?side3 ?side4 A23.out).mono ?_); (case side1 => repeat (first | exact (Kd.R_reads' HO660.out).2.2 | (with_reducible refine Kd.C_alloc ?_ _) | (with_reducible refine Kd.C_drewN ?_ _) | (with_reducible refine Kd.C_drew ?_))); (case side2 => exact (Kd.R_reads' HO660.out).2.1); (case side3 => repeat (first | exact (Kd.R_reads' HO665.out).2.2 | (with_reducible refine Kd.C_alloc ?_ _) | (with_reducible refine Kd.C_drewN ?_ _) | (with_reducible refine Kd.C_drew ?_))); (case side4 => exact (Kd.R_reads' HO665.out).2.1); rintro e w' ⟨rfl, ⟨nd, rfl⟩⟩))
                      go_roundg k1
                      case measure => have := HK1.out; omega
                      case rel => exact ⟨(wrap64 (x35_1 + 1)), (by first | rfl | (simp; done) | (simp [*]; done) | (simp only [isEmpty_ne_]; done)), (by first | exact H' | ((try subst hji6); exact H')), ⟨by have := HK1.out; omega⟩, ⟨by (with_reducible repeat (first | apply Kd.N_alloc | apply Kd.N_drewN | apply Kd.N_drew)); exact Kd.N_mono HO_33.out (fun _ hk => ⟨hk.1.1.1, hk.1.1.2⟩)⟩, ⟨by (with_reducible repeat (first | refine blk_drewN ?_ _ | refine blk_drew ?_ | refine blk_alloc ?_ _)); exact BK650.out⟩, ⟨by repeat (first | (with_reducible first | exact HB.out | apply below_alloc | apply pw_below_drewN | apply below_drew1 | refine below_set ?_ GE650.out) | exact HB.out)⟩⟩
                    · replace c24 := Bool.eq_false_iff.mpr c24
                      subst c24
                      have H1 : (some false) = some r := by rw [if_neg (show ¬ (false = true) by decide)] at H; exact H
                      clear H
                      have H := H1
                      clear H1
                      obtain rfl := Option.some.inj H
                      have p657 : 0 ≤ (x35_1 : Int) := of_decide_eq_true (by first | (with_reducible assumption) | assumption)
                      have q657 : x35_1 < (y654.length : Int) := of_decide_eq_true (by first | (with_reducible assumption) | assumption)
                      obtain ⟨ad657, A657_0, c657_0, e657, hx657_0, hl657_0, hi657_0⟩ := at_L11 (Kd.N_reads' HO_33.out).2.2 x35_1 p657 q657
                      cases e657
                      obtain ⟨ce657, hce657, hMe657, hcc657⟩ := Kd.N_get HO_33.out [] x35_1 p657 (by first | exact q657 | exact of_decide_eq_true (by first | (with_reducible assumption) | assumption) | (have e_ := (Kd.N_reads' HO_33.out).1; omega))
                      obtain ⟨ua657_0, uc657_0, rfl, ul657_0, ge657_0⟩ := Kd.FK_slice_open hMe657
                      have hv657_0 := hcc657 0 _ rfl
                      rw [Nat.add_zero, show ((Kd.slice 5 (Kd.int .u8))).sz = 1 from rfl, Nat.mul_one] at hv657_0
                      replace hv657_0 := Option.some.inj (hv657_0.symm.trans hx657_0)
                      injection hv657_0 with hva_ hvn_ hvc_
                      rw [hva_] at ge657_0
                      rw [hvc_] at ul657_0
                      have HL657_0 := Aside0.mk (show Kd.V (Kd.int .u8) 5 _ w.heap.size _ _ (rd_L11 y654 x35_1) from Kd.V_mk ul657_0 ge657_0)
                      clear hva_ hvn_ hvc_ ge657_0 ul657_0
                      clear hcc657 hce657
                      have HR657_0 := Aside0.mk hi657_0
                      have HC657_0 := Aside0.mk hl657_0
                      clear hi657_0 hl657_0
                      replace p657 := eq_true p657
                      replace q657 := eq_true q657
                      have hcz31_0 : wr.cell? ⟨gb650, 0, none⟩ = some (.int .u64 a0_0) := (blk_cell BK650.out 0).trans rfl
                      have hcz31_1 : wr.cell? ⟨gb650, 1, none⟩ = some (.int .u64 a0_1) := (blk_cell BK650.out 1).trans rfl
                      have hfz31_0 := blk_frozen BK650.out 0
                      have hfz31_1 := blk_frozen BK650.out 1
                      go_wp2_with (first | ((with_reducible refine gate_callee (f := 48) rfl ?_); refine goesL_ (some 43) rfl rfl Tryd.func48 (by kernel_rfl) rfl #[.agg #[.int .u64 a0_0, .int .u64 a0_1], .int .u64 a1, .slice A657_0 (rd_L11 y654 x35_1).length c657_0] rfl (by (try simp only [List.map_toArray, List.map_cons, List.map_nil]); first | done | rfl | (simp only [List.length_drop, List.length_take]; rfl)) ?_; (with_reducible refine (logfile_Frame.calls k1 a0_0 a0_1 a1 _ _ (rd_L11 y654 x35_1) t658 t661 t662 _ ?side1 ?side2 A19.out).mono ?_); (case side1 => repeat (first | exact (by repeat (first | (with_reducible exact HR657_0.out) | (with_reducible refine Kd.C_alloc ?_ _) | (with_reducible refine Kd.C_drewN ?_ _) | (with_reducible refine Kd.C_drew ?_) | exact HR657_0.out)) | (with_reducible refine Kd.C_alloc ?_ _) | (with_reducible refine Kd.C_drewN ?_ _) | (with_reducible refine Kd.C_drew ?_))); (case side2 => exact HC657_0.out); rintro e w32 ⟨v659, rfl, ho0, hb⟩; refine ⟨_, rfl, ?_⟩; have n0_ := Aside0.mk (Kd.N_elder' (by (with_reducible repeat (first | apply Kd.N_alloc | apply Kd.N_drewN | apply Kd.N_drew)); exact HO_33.out) (Kd.R_base ho0) hb); have n1_ := Aside0.mk (Kd.V_elder' (by (with_reducible repeat (first | apply Kd.V_alloc | apply Kd.V_drewN | apply Kd.V_drew)); exact HL657_0.out) (Kd.R_base ho0) hb); have n2_ := Aside0.mk (Kd.R_lower (Kd.R_newM (M := fun k_ => (w.heap.size ≤ k_)) ho0 (below_size (by repeat (first | (with_reducible first | exact HB.out | apply below_alloc | apply pw_below_drewN | apply below_drew1 | refine below_set ?_ GE650.out) | exact HB.out))) (fun k_ h_ => h_)) (below_size (by repeat (first | (with_reducible first | exact HB.out | apply below_alloc | apply pw_below_drewN | apply below_drew1 | refine below_set ?_ GE650.out) | exact HB.out)))); have n3_ := Aside0.mk (blk_below (g := gb650) (o := .cells #[.int .u64 a0_0, .int .u64 a0_1] 69 (0, 0)) (by (with_reducible repeat (first | refine blk_drewN ?_ _ | refine blk_drew ?_ | refine blk_alloc ?_ _)); exact BK650.out) hb); have n4_ := Aside0.mk (Kd.C_below (by repeat (first | (with_reducible exact HR657_0.out) | (with_reducible refine Kd.C_alloc ?_ _) | (with_reducible refine Kd.C_drewN ?_ _) | (with_reducible refine Kd.C_drew ?_) | exact HR657_0.out)) hb); have n5_ := Aside0.mk (below_step (by repeat (first | (with_reducible first | exact HB.out | apply below_alloc | apply pw_below_drewN | apply below_drew1 | refine below_set ?_ GE650.out) | exact HB.out)) hb); clear HO_33; clear HL657_0; clear BK650; clear HR657_0; clear HB; have HO_33 := n0_; have HL657_0 := n1_; have HO660 := n2_; have BK650 := n3_; have HR657_0 := n4_; have HB := n5_; clear n0_ n1_ n2_ n3_ n4_ n5_; (try clear hb); (try clear hb2); (try clear hk); (try clear hi); (try clear ho0); have hcz33_0 : w32.cell? ⟨gb650, 0, none⟩ = some (.int .u64 a0_0) := (blk_cell BK650.out 0).trans rfl; have hcz33_1 : w32.cell? ⟨gb650, 1, none⟩ = some (.int .u64 a0_1) := (blk_cell BK650.out 1).trans rfl; have hfz33_0 := blk_frozen BK650.out 0; have hfz33_1 := blk_frozen BK650.out 1) | ((with_reducible refine gate_callee (f := 49) rfl ?_); refine goesL_ (some 51) rfl rfl Tryd.func49 (by kernel_rfl) rfl #[.agg #[.int .u64 a0_0, .int .u64 a0_1], .int .u64 a1, .slice A657_0 (rd_L11 y654 x35_1).length c657_0] rfl (by (try simp only [List.map_toArray, List.map_cons, List.map_nil]); first | done | rfl | (simp only [List.length_drop, List.length_take]; rfl)) ?_; (with_reducible refine (kauditref25_Frame.calls k1 a0_0 a0_1 a1 _ _ (rd_L11 y654 x35_1) t663 t666 t667 _ ?side1 ?side2 A20.out).mono ?_); (case side1 => repeat (first | exact (by repeat (first | (with_reducible exact HR657_0.out) | (with_reducible refine Kd.C_alloc ?_ _) | (with_reducible refine Kd.C_drewN ?_ _) | (with_reducible refine Kd.C_drew ?_) | exact HR657_0.out)) | (with_reducible refine Kd.C_alloc ?_ _) | (with_reducible refine Kd.C_drewN ?_ _) | (with_reducible refine Kd.C_drew ?_))); (case side2 => exact HC657_0.out); rintro e w34 ⟨v664, rfl, ho0, hb⟩; refine ⟨_, rfl, ?_⟩; have n0_ := Aside0.mk (Kd.N_elder' (by (with_reducible repeat (first | apply Kd.N_alloc | apply Kd.N_drewN | apply Kd.N_drew)); exact HO_33.out) (Kd.R_base ho0) hb); have n1_ := Aside0.mk (Kd.V_elder' (by (with_reducible repeat (first | apply Kd.V_alloc | apply Kd.V_drewN | apply Kd.V_drew)); exact HL657_0.out) (Kd.R_base ho0) hb); have n2_ := Aside0.mk (Kd.R_elder' (by (with_reducible repeat (first | apply Kd.R_alloc | apply Kd.R_drewN | apply Kd.R_drew)); exact HO660.out) (Kd.R_base ho0) hb); have n3_ := Aside0.mk (Kd.R_lower (Kd.R_new' (Kd.R_newM (M := fun k_ => (w.heap.size ≤ k_)) ho0 (below_size (by repeat (first | (with_reducible first | exact HB.out | apply below_alloc | apply pw_below_drewN | apply below_drew1 | refine below_set ?_ GE650.out) | exact HB.out))) (fun k_ h_ => h_)) (Kd.R_lt (by (with_reducible repeat (first | apply Kd.R_alloc | apply Kd.R_drewN | apply Kd.R_drew)); exact HO660.out))) (below_size (by repeat (first | (with_reducible first | exact HB.out | apply below_alloc | apply pw_below_drewN | apply below_drew1 | refine below_set ?_ GE650.out) | exact HB.out)))); have n4_ := Aside0.mk (blk_below (g := gb650) (o := .cells #[.int .u64 a0_0, .int .u64 a0_1] 69 (0, 0)) (by (with_reducible repeat (first | refine blk_drewN ?_ _ | refine blk_drew ?_ | refine blk_alloc ?_ _)); exact BK650.out) hb); have n5_ := Aside0.mk (Kd.C_below (by repeat (first | (with_reducible exact HR657_0.out) | (with_reducible refine Kd.C_alloc ?_ _) | (with_reducible refine Kd.C_drewN ?_ _) | (with_reducible refine Kd.C_drew ?_) | exact HR657_0.out)) hb); have n6_ := Aside0.mk (below_step (by repeat (first | (with_reducible first | exact HB.out | apply below_alloc | apply pw_below_drewN | apply below_drew1 | refine below_set ?_ GE650.out) | exact HB.out)) hb); clear HO_33; clear HL657_0; clear HO660; clear BK650; clear HR657_0; clear HB; have HO_33 := n0_; have HL657_0 := n1_; have HO660 := n2_; have HO665 := n3_; have BK650 := n4_; have HR657_0 := n5_; have HB := n6_; clear n0_ n1_ n2_ n3_ n4_ n5_ n6_; (try clear hb); (try clear hb2); (try clear hk); (try clear hi); (try clear ho0); obtain ⟨Ao35, co35, eo35⟩ := Kd.R_slice HO660.out; subst eo35; obtain ⟨Ao36, co36, eo36⟩ := Kd.R_slice HO665.out; subst eo36) | (go_at_call 50; (with_reducible refine (kauditref24_SameBytes.calls _ _ t658 _ _ t663 false _ ?side1 ?side2 ?side3 ?side4 A23.out).mono ?_); (case side1 => repeat (first | exact (Kd.R_reads' HO660.out).2.2 | (with_reducible refine Kd.C_alloc ?_ _) | (with_reducible refine Kd.C_drewN ?_ _) | (with_reducible refine Kd.C_drew ?_))); (case side2 => exact (Kd.R_reads' HO660.out).2.1); (case side3 => repeat (first | exact (Kd.R_reads' HO665.out).2.2 | (with_reducible refine Kd.C_alloc ?_ _) | (with_reducible refine Kd.C_drewN ?_ _) | (with_reducible refine Kd.C_drew ?_))); (case side4 => exact (Kd.R_reads' HO665.out).2.1); rintro e w' ⟨rfl, ⟨nd, rfl⟩⟩))
                      go_ret
                      exact ⟨by first | rfl | (simp [errW_none, errW_some] <;> rfl) | (simp only [← hji6]; first | rfl | (simp [errW_none, errW_some] <;> rfl)) | (simp [*, errW_none, errW_some] <;> rfl) | (simp only [isEmpty_ne_, isEmpty_eq_]; rfl) | (simp [*, isEmpty_ne_, isEmpty_eq_]; done), by repeat (first | (with_reducible first | exact HB.out | apply below_alloc | apply pw_below_drewN | apply below_drew1 | refine below_set ?_ GE650.out) | exact HB.out)⟩
                  · rw [if_neg c22] at H
                    have c22b0 : (t661 == t666) = false := beq_eq_false_iff_ne.mpr c22
                    have c22b1 : (t661 != t666) = true := bne_iff_ne.mpr c22
                    obtain rfl := Option.some.inj H
                    have p657 : 0 ≤ (x35_1 : Int) := of_decide_eq_true (by first | (with_reducible assumption) | assumption)
                    have q657 : x35_1 < (y654.length : Int) := of_decide_eq_true (by first | (with_reducible assumption) | assumption)
                    obtain ⟨ad657, A657_0, c657_0, e657, hx657_0, hl657_0, hi657_0⟩ := at_L11 (Kd.N_reads' HO_33.out).2.2 x35_1 p657 q657
                    cases e657
                    obtain ⟨ce657, hce657, hMe657, hcc657⟩ := Kd.N_get HO_33.out [] x35_1 p657 (by first | exact q657 | exact of_decide_eq_true (by first | (with_reducible assumption) | assumption) | (have e_ := (Kd.N_reads' HO_33.out).1; omega))
                    obtain ⟨ua657_0, uc657_0, rfl, ul657_0, ge657_0⟩ := Kd.FK_slice_open hMe657
                    have hv657_0 := hcc657 0 _ rfl
                    rw [Nat.add_zero, show ((Kd.slice 5 (Kd.int .u8))).sz = 1 from rfl, Nat.mul_one] at hv657_0
                    replace hv657_0 := Option.some.inj (hv657_0.symm.trans hx657_0)
                    injection hv657_0 with hva_ hvn_ hvc_
                    rw [hva_] at ge657_0
                    rw [hvc_] at ul657_0
                    have HL657_0 := Aside0.mk (show Kd.V (Kd.int .u8) 5 _ w.heap.size _ _ (rd_L11 y654 x35_1) from Kd.V_mk ul657_0 ge657_0)
                    clear hva_ hvn_ hvc_ ge657_0 ul657_0
                    clear hcc657 hce657
                    have HR657_0 := Aside0.mk hi657_0
                    have HC657_0 := Aside0.mk hl657_0
                    clear hi657_0 hl657_0
                    replace p657 := eq_true p657
                    replace q657 := eq_true q657
                    have hcz37_0 : wr.cell? ⟨gb650, 0, none⟩ = some (.int .u64 a0_0) := (blk_cell BK650.out 0).trans rfl
                    have hcz37_1 : wr.cell? ⟨gb650, 1, none⟩ = some (.int .u64 a0_1) := (blk_cell BK650.out 1).trans rfl
                    have hfz37_0 := blk_frozen BK650.out 0
                    have hfz37_1 := blk_frozen BK650.out 1
                    go_wp2_with (first | ((with_reducible refine gate_callee (f := 48) rfl ?_); refine goesL_ (some 43) rfl rfl Tryd.func48 (by kernel_rfl) rfl #[.agg #[.int .u64 a0_0, .int .u64 a0_1], .int .u64 a1, .slice A657_0 (rd_L11 y654 x35_1).length c657_0] rfl (by (try simp only [List.map_toArray, List.map_cons, List.map_nil]); first | done | rfl | (simp only [List.length_drop, List.length_take]; rfl)) ?_; (with_reducible refine (logfile_Frame.calls k1 a0_0 a0_1 a1 _ _ (rd_L11 y654 x35_1) t658 t661 t662 _ ?side1 ?side2 A19.out).mono ?_); (case side1 => repeat (first | exact (by repeat (first | (with_reducible exact HR657_0.out) | (with_reducible refine Kd.C_alloc ?_ _) | (with_reducible refine Kd.C_drewN ?_ _) | (with_reducible refine Kd.C_drew ?_) | exact HR657_0.out)) | (with_reducible refine Kd.C_alloc ?_ _) | (with_reducible refine Kd.C_drewN ?_ _) | (with_reducible refine Kd.C_drew ?_))); (case side2 => exact HC657_0.out); rintro e w38 ⟨v659, rfl, ho0, hb⟩; refine ⟨_, rfl, ?_⟩; have n0_ := Aside0.mk (Kd.N_elder' (by (with_reducible repeat (first | apply Kd.N_alloc | apply Kd.N_drewN | apply Kd.N_drew)); exact HO_33.out) (Kd.R_base ho0) hb); have n1_ := Aside0.mk (Kd.V_elder' (by (with_reducible repeat (first | apply Kd.V_alloc | apply Kd.V_drewN | apply Kd.V_drew)); exact HL657_0.out) (Kd.R_base ho0) hb); have n2_ := Aside0.mk (Kd.R_lower (Kd.R_newM (M := fun k_ => (w.heap.size ≤ k_)) ho0 (below_size (by repeat (first | (with_reducible first | exact HB.out | apply below_alloc | apply pw_below_drewN | apply below_drew1 | refine below_set ?_ GE650.out) | exact HB.out))) (fun k_ h_ => h_)) (below_size (by repeat (first | (with_reducible first | exact HB.out | apply below_alloc | apply pw_below_drewN | apply below_drew1 | refine below_set ?_ GE650.out) | exact HB.out)))); have n3_ := Aside0.mk (blk_below (g := gb650) (o := .cells #[.int .u64 a0_0, .int .u64 a0_1] 69 (0, 0)) (by (with_reducible repeat (first | refine blk_drewN ?_ _ | refine blk_drew ?_ | refine blk_alloc ?_ _)); exact BK650.out) hb); have n4_ := Aside0.mk (Kd.C_below (by repeat (first | (with_reducible exact HR657_0.out) | (with_reducible refine Kd.C_alloc ?_ _) | (with_reducible refine Kd.C_drewN ?_ _) | (with_reducible refine Kd.C_drew ?_) | exact HR657_0.out)) hb); have n5_ := Aside0.mk (below_step (by repeat (first | (with_reducible first | exact HB.out | apply below_alloc | apply pw_below_drewN | apply below_drew1 | refine below_set ?_ GE650.out) | exact HB.out)) hb); clear HO_33; clear HL657_0; clear BK650; clear HR657_0; clear HB; have HO_33 := n0_; have HL657_0 := n1_; have HO660 := n2_; have BK650 := n3_; have HR657_0 := n4_; have HB := n5_; clear n0_ n1_ n2_ n3_ n4_ n5_; (try clear hb); (try clear hb2); (try clear hk); (try clear hi); (try clear ho0); have hcz39_0 : w38.cell? ⟨gb650, 0, none⟩ = some (.int .u64 a0_0) := (blk_cell BK650.out 0).trans rfl; have hcz39_1 : w38.cell? ⟨gb650, 1, none⟩ = some (.int .u64 a0_1) := (blk_cell BK650.out 1).trans rfl; have hfz39_0 := blk_frozen BK650.out 0; have hfz39_1 := blk_frozen BK650.out 1) | ((with_reducible refine gate_callee (f := 49) rfl ?_); refine goesL_ (some 51) rfl rfl Tryd.func49 (by kernel_rfl) rfl #[.agg #[.int .u64 a0_0, .int .u64 a0_1], .int .u64 a1, .slice A657_0 (rd_L11 y654 x35_1).length c657_0] rfl (by (try simp only [List.map_toArray, List.map_cons, List.map_nil]); first | done | rfl | (simp only [List.length_drop, List.length_take]; rfl)) ?_; (with_reducible refine (kauditref25_Frame.calls k1 a0_0 a0_1 a1 _ _ (rd_L11 y654 x35_1) t663 t666 t667 _ ?side1 ?side2 A20.out).mono ?_); (case side1 => repeat (first | exact (by repeat (first | (with_reducible exact HR657_0.out) | (with_reducible refine Kd.C_alloc ?_ _) | (with_reducible refine Kd.C_drewN ?_ _) | (with_reducible refine Kd.C_drew ?_) | exact HR657_0.out)) | (with_reducible refine Kd.C_alloc ?_ _) | (with_reducible refine Kd.C_drewN ?_ _) | (with_reducible refine Kd.C_drew ?_))); (case side2 => exact HC657_0.out); rintro e w40 ⟨v664, rfl, ho0, hb⟩; refine ⟨_, rfl, ?_⟩; have n0_ := Aside0.mk (Kd.N_elder' (by (with_reducible repeat (first | apply Kd.N_alloc | apply Kd.N_drewN | apply Kd.N_drew)); exact HO_33.out) (Kd.R_base ho0) hb); have n1_ := Aside0.mk (Kd.V_elder' (by (with_reducible repeat (first | apply Kd.V_alloc | apply Kd.V_drewN | apply Kd.V_drew)); exact HL657_0.out) (Kd.R_base ho0) hb); have n2_ := Aside0.mk (Kd.R_elder' (by (with_reducible repeat (first | apply Kd.R_alloc | apply Kd.R_drewN | apply Kd.R_drew)); exact HO660.out) (Kd.R_base ho0) hb); have n3_ := Aside0.mk (Kd.R_lower (Kd.R_new' (Kd.R_newM (M := fun k_ => (w.heap.size ≤ k_)) ho0 (below_size (by repeat (first | (with_reducible first | exact HB.out | apply below_alloc | apply pw_below_drewN | apply below_drew1 | refine below_set ?_ GE650.out) | exact HB.out))) (fun k_ h_ => h_)) (Kd.R_lt (by (with_reducible repeat (first | apply Kd.R_alloc | apply Kd.R_drewN | apply Kd.R_drew)); exact HO660.out))) (below_size (by repeat (first | (with_reducible first | exact HB.out | apply below_alloc | apply pw_below_drewN | apply below_drew1 | refine below_set ?_ GE650.out) | exact HB.out)))); have n4_ := Aside0.mk (blk_below (g := gb650) (o := .cells #[.int .u64 a0_0, .int .u64 a0_1] 69 (0, 0)) (by (with_reducible repeat (first | refine blk_drewN ?_ _ | refine blk_drew ?_ | refine blk_alloc ?_ _)); exact BK650.out) hb); have n5_ := Aside0.mk (Kd.C_below (by repeat (first | (with_reducible exact HR657_0.out) | (with_reducible refine Kd.C_alloc ?_ _) | (with_reducible refine Kd.C_drewN ?_ _) | (with_reducible refine Kd.C_drew ?_) | exact HR657_0.out)) hb); have n6_ := Aside0.mk (below_step (by repeat (first | (with_reducible first | exact HB.out | apply below_alloc | apply pw_below_drewN | apply below_drew1 | refine below_set ?_ GE650.out) | exact HB.out)) hb); clear HO_33; clear HL657_0; clear HO660; clear BK650; clear HR657_0; clear HB; have HO_33 := n0_; have HL657_0 := n1_; have HO660 := n2_; have HO665 := n3_; have BK650 := n4_; have HR657_0 := n5_; have HB := n6_; clear n0_ n1_ n2_ n3_ n4_ n5_ n6_; (try clear hb); (try clear hb2); (try clear hk); (try clear hi); (try clear ho0)))
                    go_ret
                    exact ⟨by first | rfl | (simp [errW_none, errW_some] <;> rfl) | (simp only [← hji6]; first | rfl | (simp [errW_none, errW_some] <;> rfl)) | (simp [*, errW_none, errW_some] <;> rfl) | (simp only [isEmpty_ne_, isEmpty_eq_]; rfl) | (simp [*, isEmpty_ne_, isEmpty_eq_]; done), by repeat (first | (with_reducible first | exact HB.out | apply below_alloc | apply pw_below_drewN | apply below_drew1 | refine below_set ?_ GE650.out) | exact HB.out)⟩
                · rw [if_neg c21] at H
                  have c21b0 : (t662 == t667) = false := beq_eq_false_iff_ne.mpr c21
                  have c21b1 : (t662 != t667) = true := bne_iff_ne.mpr c21
                  obtain rfl := Option.some.inj H
                  have p657 : 0 ≤ (x35_1 : Int) := of_decide_eq_true (by first | (with_reducible assumption) | assumption)
                  have q657 : x35_1 < (y654.length : Int) := of_decide_eq_true (by first | (with_reducible assumption) | assumption)
                  obtain ⟨ad657, A657_0, c657_0, e657, hx657_0, hl657_0, hi657_0⟩ := at_L11 (Kd.N_reads' HO_33.out).2.2 x35_1 p657 q657
                  cases e657
                  obtain ⟨ce657, hce657, hMe657, hcc657⟩ := Kd.N_get HO_33.out [] x35_1 p657 (by first | exact q657 | exact of_decide_eq_true (by first | (with_reducible assumption) | assumption) | (have e_ := (Kd.N_reads' HO_33.out).1; omega))
                  obtain ⟨ua657_0, uc657_0, rfl, ul657_0, ge657_0⟩ := Kd.FK_slice_open hMe657
                  have hv657_0 := hcc657 0 _ rfl
                  rw [Nat.add_zero, show ((Kd.slice 5 (Kd.int .u8))).sz = 1 from rfl, Nat.mul_one] at hv657_0
                  replace hv657_0 := Option.some.inj (hv657_0.symm.trans hx657_0)
                  injection hv657_0 with hva_ hvn_ hvc_
                  rw [hva_] at ge657_0
                  rw [hvc_] at ul657_0
                  have HL657_0 := Aside0.mk (show Kd.V (Kd.int .u8) 5 _ w.heap.size _ _ (rd_L11 y654 x35_1) from Kd.V_mk ul657_0 ge657_0)
                  clear hva_ hvn_ hvc_ ge657_0 ul657_0
                  clear hcc657 hce657
                  have HR657_0 := Aside0.mk hi657_0
                  have HC657_0 := Aside0.mk hl657_0
                  clear hi657_0 hl657_0
                  replace p657 := eq_true p657
                  replace q657 := eq_true q657
                  have hcz41_0 : wr.cell? ⟨gb650, 0, none⟩ = some (.int .u64 a0_0) := (blk_cell BK650.out 0).trans rfl
                  have hcz41_1 : wr.cell? ⟨gb650, 1, none⟩ = some (.int .u64 a0_1) := (blk_cell BK650.out 1).trans rfl
                  have hfz41_0 := blk_frozen BK650.out 0
                  have hfz41_1 := blk_frozen BK650.out 1
                  go_wp2_with (first | ((with_reducible refine gate_callee (f := 48) rfl ?_); refine goesL_ (some 43) rfl rfl Tryd.func48 (by kernel_rfl) rfl #[.agg #[.int .u64 a0_0, .int .u64 a0_1], .int .u64 a1, .slice A657_0 (rd_L11 y654 x35_1).length c657_0] rfl (by (try simp only [List.map_toArray, List.map_cons, List.map_nil]); first | done | rfl | (simp only [List.length_drop, List.length_take]; rfl)) ?_; (with_reducible refine (logfile_Frame.calls k1 a0_0 a0_1 a1 _ _ (rd_L11 y654 x35_1) t658 t661 t662 _ ?side1 ?side2 A19.out).mono ?_); (case side1 => repeat (first | exact (by repeat (first | (with_reducible exact HR657_0.out) | (with_reducible refine Kd.C_alloc ?_ _) | (with_reducible refine Kd.C_drewN ?_ _) | (with_reducible refine Kd.C_drew ?_) | exact HR657_0.out)) | (with_reducible refine Kd.C_alloc ?_ _) | (with_reducible refine Kd.C_drewN ?_ _) | (with_reducible refine Kd.C_drew ?_))); (case side2 => exact HC657_0.out); rintro e w42 ⟨v659, rfl, ho0, hb⟩; refine ⟨_, rfl, ?_⟩; have n0_ := Aside0.mk (Kd.N_elder' (by (with_reducible repeat (first | apply Kd.N_alloc | apply Kd.N_drewN | apply Kd.N_drew)); exact HO_33.out) (Kd.R_base ho0) hb); have n1_ := Aside0.mk (Kd.V_elder' (by (with_reducible repeat (first | apply Kd.V_alloc | apply Kd.V_drewN | apply Kd.V_drew)); exact HL657_0.out) (Kd.R_base ho0) hb); have n2_ := Aside0.mk (Kd.R_lower (Kd.R_newM (M := fun k_ => (w.heap.size ≤ k_)) ho0 (below_size (by repeat (first | (with_reducible first | exact HB.out | apply below_alloc | apply pw_below_drewN | apply below_drew1 | refine below_set ?_ GE650.out) | exact HB.out))) (fun k_ h_ => h_)) (below_size (by repeat (first | (with_reducible first | exact HB.out | apply below_alloc | apply pw_below_drewN | apply below_drew1 | refine below_set ?_ GE650.out) | exact HB.out)))); have n3_ := Aside0.mk (blk_below (g := gb650) (o := .cells #[.int .u64 a0_0, .int .u64 a0_1] 69 (0, 0)) (by (with_reducible repeat (first | refine blk_drewN ?_ _ | refine blk_drew ?_ | refine blk_alloc ?_ _)); exact BK650.out) hb); have n4_ := Aside0.mk (Kd.C_below (by repeat (first | (with_reducible exact HR657_0.out) | (with_reducible refine Kd.C_alloc ?_ _) | (with_reducible refine Kd.C_drewN ?_ _) | (with_reducible refine Kd.C_drew ?_) | exact HR657_0.out)) hb); have n5_ := Aside0.mk (below_step (by repeat (first | (with_reducible first | exact HB.out | apply below_alloc | apply pw_below_drewN | apply below_drew1 | refine below_set ?_ GE650.out) | exact HB.out)) hb); clear HO_33; clear HL657_0; clear BK650; clear HR657_0; clear HB; have HO_33 := n0_; have HL657_0 := n1_; have HO660 := n2_; have BK650 := n3_; have HR657_0 := n4_; have HB := n5_; clear n0_ n1_ n2_ n3_ n4_ n5_; (try clear hb); (try clear hb2); (try clear hk); (try clear hi); (try clear ho0); have hcz43_0 : w42.cell? ⟨gb650, 0, none⟩ = some (.int .u64 a0_0) := (blk_cell BK650.out 0).trans rfl; have hcz43_1 : w42.cell? ⟨gb650, 1, none⟩ = some (.int .u64 a0_1) := (blk_cell BK650.out 1).trans rfl; have hfz43_0 := blk_frozen BK650.out 0; have hfz43_1 := blk_frozen BK650.out 1) | ((with_reducible refine gate_callee (f := 49) rfl ?_); refine goesL_ (some 51) rfl rfl Tryd.func49 (by kernel_rfl) rfl #[.agg #[.int .u64 a0_0, .int .u64 a0_1], .int .u64 a1, .slice A657_0 (rd_L11 y654 x35_1).length c657_0] rfl (by (try simp only [List.map_toArray, List.map_cons, List.map_nil]); first | done | rfl | (simp only [List.length_drop, List.length_take]; rfl)) ?_; (with_reducible refine (kauditref25_Frame.calls k1 a0_0 a0_1 a1 _ _ (rd_L11 y654 x35_1) t663 t666 t667 _ ?side1 ?side2 A20.out).mono ?_); (case side1 => repeat (first | exact (by repeat (first | (with_reducible exact HR657_0.out) | (with_reducible refine Kd.C_alloc ?_ _) | (with_reducible refine Kd.C_drewN ?_ _) | (with_reducible refine Kd.C_drew ?_) | exact HR657_0.out)) | (with_reducible refine Kd.C_alloc ?_ _) | (with_reducible refine Kd.C_drewN ?_ _) | (with_reducible refine Kd.C_drew ?_))); (case side2 => exact HC657_0.out); rintro e w44 ⟨v664, rfl, ho0, hb⟩; refine ⟨_, rfl, ?_⟩; have n0_ := Aside0.mk (Kd.N_elder' (by (with_reducible repeat (first | apply Kd.N_alloc | apply Kd.N_drewN | apply Kd.N_drew)); exact HO_33.out) (Kd.R_base ho0) hb); have n1_ := Aside0.mk (Kd.V_elder' (by (with_reducible repeat (first | apply Kd.V_alloc | apply Kd.V_drewN | apply Kd.V_drew)); exact HL657_0.out) (Kd.R_base ho0) hb); have n2_ := Aside0.mk (Kd.R_elder' (by (with_reducible repeat (first | apply Kd.R_alloc | apply Kd.R_drewN | apply Kd.R_drew)); exact HO660.out) (Kd.R_base ho0) hb); have n3_ := Aside0.mk (Kd.R_lower (Kd.R_new' (Kd.R_newM (M := fun k_ => (w.heap.size ≤ k_)) ho0 (below_size (by repeat (first | (with_reducible first | exact HB.out | apply below_alloc | apply pw_below_drewN | apply below_drew1 | refine below_set ?_ GE650.out) | exact HB.out))) (fun k_ h_ => h_)) (Kd.R_lt (by (with_reducible repeat (first | apply Kd.R_alloc | apply Kd.R_drewN | apply Kd.R_drew)); exact HO660.out))) (below_size (by repeat (first | (with_reducible first | exact HB.out | apply below_alloc | apply pw_below_drewN | apply below_drew1 | refine below_set ?_ GE650.out) | exact HB.out)))); have n4_ := Aside0.mk (blk_below (g := gb650) (o := .cells #[.int .u64 a0_0, .int .u64 a0_1] 69 (0, 0)) (by (with_reducible repeat (first | refine blk_drewN ?_ _ | refine blk_drew ?_ | refine blk_alloc ?_ _)); exact BK650.out) hb); have n5_ := Aside0.mk (Kd.C_below (by repeat (first | (with_reducible exact HR657_0.out) | (with_reducible refine Kd.C_alloc ?_ _) | (with_reducible refine Kd.C_drewN ?_ _) | (with_reducible refine Kd.C_drew ?_) | exact HR657_0.out)) hb); have n6_ := Aside0.mk (below_step (by repeat (first | (with_reducible first | exact HB.out | apply below_alloc | apply pw_below_drewN | apply below_drew1 | refine below_set ?_ GE650.out) | exact HB.out)) hb); clear HO_33; clear HL657_0; clear HO660; clear BK650; clear HR657_0; clear HB; have HO_33 := n0_; have HL657_0 := n1_; have HO660 := n2_; have HO665 := n3_; have BK650 := n4_; have HR657_0 := n5_; have HB := n6_; clear n0_ n1_ n2_ n3_ n4_ n5_ n6_; (try clear hb); (try clear hb2); (try clear hk); (try clear hi); (try clear ho0)))
                  go_ret
                  exact ⟨by first | rfl | (simp [errW_none, errW_some] <;> rfl) | (simp only [← hji6]; first | rfl | (simp [errW_none, errW_some] <;> rfl)) | (simp [*, errW_none, errW_some] <;> rfl) | (simp only [isEmpty_ne_, isEmpty_eq_]; rfl) | (simp [*, isEmpty_ne_, isEmpty_eq_]; done), by repeat (first | (with_reducible first | exact HB.out | apply below_alloc | apply pw_below_drewN | apply below_drew1 | refine below_set ?_ GE650.out) | exact HB.out)⟩
              · rw [if_neg c18] at H
                exact absurd H (by simp)
            · rw [if_neg c17] at H
              exact absurd H (by simp)
          · rw [if_neg c16] at H
            have c16b0 : decide (x35_1 < (y654.length : Int)) = false := decide_eq_false c16
            clear c16
            obtain ⟨y669, hy669⟩ : ∃ y_ : List Int, y_ = (([a3, wrap64 (1 + (Int.tmod (wrap64 (a4)) 1000)), 0, 1001] : List Int)) := ⟨_, rfl⟩
            replace H : (kauditlaw25_LogfileFrames.l1 k1 a1 y669 (y669.length : Int) 0 a0_0 a0_1) = some r := by first | (rw [hy669]; with_reducible exact H) | (have H2_ := (Option.bind_some _ _).symm.trans H; rw [hy669]; with_reducible exact H2_) | (have H2_ := (Option.bind_some _ _).symm.trans H; with_reducible exact H2_) | with_reducible exact H | (rw [hy669]; exact H) | exact H
            have Ny669 := Aside0.mk hy669
            clear hy669
            have H' := Aside0.mk H
            clear H
            go_wp2_with (first | ((with_reducible refine gate_dst (N := 75) rfl ?_); refine Kd.R_lit (Kd.int .i64) _ 3 ?hg (N := 75) ?hd (xs := ([a3, wrap64 (1 + (Int.tmod (wrap64 (a4)) 1000)), 0, 1001] : List Int)) (inner := [.int .i64 a3, .int .i64 (wrap64 (1 + (Int.tmod (wrap64 (a4)) 1000))), .int .i64 0, .int .i64 1001]) (ok := fun _ => True) (okp := fun _ => True) ?hr ?hp (fun _ hk => hk) trivial (Below.refl _ _) (Nat.le_refl _) (by simp) ?_; (case hd => rfl); (case hg => rfl); (case hr => first | (go_simp; done) | (go_simp; rfl)); (case hp => exact (Reps.one (show Kd.M (Kd.int .i64) _ _ _ a3 [.int .i64 a3] from rfl) (Reps.one (show Kd.M (Kd.int .i64) _ _ _ (wrap64 (1 + (Int.tmod (wrap64 (a4)) 1000))) [.int .i64 (wrap64 (1 + (Int.tmod (wrap64 (a4)) 1000)))] from rfl) (Reps.one (show Kd.M (Kd.int .i64) _ _ _ 0 [.int .i64 0] from rfl) (Reps.one (show Kd.M (Kd.int .i64) _ _ _ 1001 [.int .i64 1001] from rfl) (Reps.none _ _)))))); intro v670 w45 ho46 hb hg_ hnew_; clear hg_ hnew_; (first | rw [← Ny669.out] at ho46 | (simp only [Int.reduceToNat] at ho46; rw [← Ny669.out] at ho46)); have n0_ := Aside0.mk (Kd.N_elder' (by (with_reducible repeat (first | apply Kd.N_alloc | apply Kd.N_drewN | apply Kd.N_drew)); exact HO_33.out) (Kd.R_base ho46) hb); have n1_ := Aside0.mk (Kd.R_lower (Kd.R_newM (M := fun k_ => (w.heap.size ≤ k_)) ho46 (below_size (by repeat (first | (with_reducible first | exact HB.out | apply below_alloc | apply pw_below_drewN | apply below_drew1 | refine below_set ?_ GE650.out) | exact HB.out))) (fun k_ h_ => h_)) (below_size (by repeat (first | (with_reducible first | exact HB.out | apply below_alloc | apply pw_below_drewN | apply below_drew1 | refine below_set ?_ GE650.out) | exact HB.out)))); have n2_ := Aside0.mk (blk_below (g := gb650) (o := .cells #[.int .u64 a0_0, .int .u64 a0_1] 69 (0, 0)) (by (with_reducible repeat (first | refine blk_drewN ?_ _ | refine blk_drew ?_ | refine blk_alloc ?_ _)); exact BK650.out) hb); have n3_ := Aside0.mk (below_step (by repeat (first | (with_reducible first | exact HB.out | apply below_alloc | apply pw_below_drewN | apply below_drew1 | refine below_set ?_ GE650.out) | exact HB.out)) hb); clear HO_33; clear BK650; clear HB; have HO_33 := n0_; have HO671 := n1_; have BK650 := n2_; have HB := n3_; clear n0_ n1_ n2_ n3_; clear hb ho46; obtain ⟨Ao47, co47, eo47⟩ := Kd.R_slice HO671.out; subst eo47))
            go_loopg [77] k1 (fun kq v77 w' => ∃ (x77_2 : Int), v77 = .int .i64 x77_2 ∧ Aside0 (kauditlaw25_LogfileFrames.l1 kq a1 y669 (y669.length : Int) x77_2 a0_0 a0_1 = some r) ∧ Aside0 (kq ≤ k1) ∧ Aside0 (Kd.R (Kd.int .i64) 3 w' w.heap.size (fun k_ => (w.heap.size ≤ k_)) (.slice Ao47 y669.length co47) y669) ∧ Aside0 (w'.heap[gb650]? = some (.cells #[.int .u64 a0_0, .int .u64 a0_1] 69 (0, 0))) ∧ Aside0 (Below w.heap.size w w'))
            case atStart => exact ⟨(0), (by first | rfl | (simp; done) | (simp [*]; done) | (simp only [isEmpty_ne_]; done)), (by first | exact H' | ((try subst hji6); exact H')), ⟨Nat.le_refl _⟩, ⟨by (with_reducible repeat (first | apply Kd.R_alloc | apply Kd.R_drewN | apply Kd.R_drew)); exact Kd.R_mono HO671.out (fun _ hk => hk.1)⟩, ⟨by (with_reducible repeat (first | refine blk_drewN ?_ _ | refine blk_drew ?_ | refine blk_alloc ?_ _)); exact BK650.out⟩, ⟨by repeat (first | (with_reducible first | exact HB.out | apply below_alloc | apply pw_below_drewN | apply below_drew1 | refine below_set ?_ GE650.out) | exact HB.out)⟩⟩
            case round =>
              clear H'
              try clear c1
              try clear c2
              try clear p2
              try clear c4
              try clear c6
              try clear p6
              try clear q6
              try clear hx6
              try clear c7
              try clear c7b0
              try clear c7b1
              try clear c8
              try clear c8b0
              try clear c8b1
              try clear c10
              try clear c16
              try clear c16b0
              try clear c17
              try clear c17b0
              try clear c18
              try clear c18b0
              try clear c21
              try clear c21b0
              try clear c21b1
              try clear c22
              try clear c22b0
              try clear c22b1
              try clear c24
              try clear hcz25_0
              try clear hcz25_1
              try clear hcz27_0
              try clear hcz27_1
              try clear hcz31_0
              try clear hcz31_1
              try clear hcz33_0
              try clear hcz33_1
              try clear hcz37_0
              try clear hcz37_1
              try clear hcz39_0
              try clear hcz39_1
              try clear hcz41_0
              try clear hcz41_1
              try clear hcz43_0
              try clear hcz43_1
              try clear hfz25_0
              try clear hfz25_1
              try clear hfz27_0
              try clear hfz27_1
              try clear hfz31_0
              try clear hfz31_1
              try clear hfz33_0
              try clear hfz33_1
              try clear hfz37_0
              try clear hfz37_1
              try clear hfz39_0
              try clear hfz39_1
              try clear hfz41_0
              try clear hfz41_1
              try clear hfz43_0
              try clear hfz43_1
              try clear hx657_0
              try clear p2
              try clear p6
              try clear p657
              try clear q657
              obtain ⟨x77_2, rfl, HA, HK2, HO_75, BK650, HB⟩ := hrel
              cases gk with
              | zero => exact absurd HA.out (by simp [kauditlaw25_LogfileFrames.l1])
              | succ k2 =>
                have H := HA.out
                clear HA
                simp only [kauditlaw25_LogfileFrames.l1] at H
                by_cases c48 : x77_2 < (y669.length : Int)
                · rw [if_pos c48] at H
                  have c48b0 : decide (x77_2 < (y669.length : Int)) = true := decide_eq_true c48
                  clear c48
                  by_cases c49 : 0 ≤ x77_2
                  · rw [if_pos c49] at H
                    have c49b0 : decide (0 ≤ x77_2) = true := decide_eq_true c49
                    clear c49
                    by_cases c50 : x77_2 < (y669.length : Int)
                    · rw [if_pos c50] at H
                      have c50b0 : decide (x77_2 < (y669.length : Int)) = true := decide_eq_true c50
                      clear c50
                      replace H := Option.bind_eq_some_iff.mp H
                      obtain ⟨⟨t674, t677, t678⟩, A510, H⟩ := H
                      replace H : ((kauditref25_Head.f k2 a0_0 a0_1 (rd y669 x77_2) a1).bind fun bt679 => (if t678 = bt679.2.2 then (if t677 = bt679.2.1 then ((kauditref24_SameBytes.f t674 bt679.1).bind fun t684 => (if t684 = true then (kauditlaw25_LogfileFrames.l1 k2 a1 y669 (y669.length : Int) (wrap64 (x77_2 + 1)) a0_0 a0_1) else (some false))) else (some false)) else (some false))) = some r := H
                      have A51 := Aside0.mk A510
                      clear A510
                      replace H := Option.bind_eq_some_iff.mp H
                      obtain ⟨⟨t679, t682, t683⟩, A520, H⟩ := H
                      replace H : (if t678 = t683 then (if t677 = t682 then ((kauditref24_SameBytes.f t674 t679).bind fun t684 => (if t684 = true then (kauditlaw25_LogfileFrames.l1 k2 a1 y669 (y669.length : Int) (wrap64 (x77_2 + 1)) a0_0 a0_1) else (some false))) else (some false)) else (some false)) = some r := H
                      have A52 := Aside0.mk A520
                      clear A520
                      by_cases c53 : t678 = t683
                      · rw [if_pos c53] at H
                        have c53b0 : (t678 == t683) = true := beq_iff_eq.mpr c53
                        have c53b1 : (t678 != t683) = false := bne_eq_false_iff_eq.mpr c53
                        clear c53
                        by_cases c54 : t677 = t682
                        · rw [if_pos c54] at H
                          have c54b0 : (t677 == t682) = true := beq_iff_eq.mpr c54
                          have c54b1 : (t677 != t682) = false := bne_eq_false_iff_eq.mpr c54
                          clear c54
                          replace H := Option.bind_eq_some_iff.mp H
                          obtain ⟨t684, A550, H⟩ := H
                          replace H : (if t684 = true then (kauditlaw25_LogfileFrames.l1 k2 a1 y669 (y669.length : Int) (wrap64 (x77_2 + 1)) a0_0 a0_1) else (some false)) = some r := H
                          have A55 := Aside0.mk A550
                          clear A550
                          by_cases c56 : t684 = true
                          · subst c56
                            have H1 : (kauditlaw25_LogfileFrames.l1 k2 a1 y669 (y669.length : Int) (wrap64 (x77_2 + 1)) a0_0 a0_1) = some r := by rw [if_pos rfl] at H; exact H
                            clear H
                            have H := H1
                            clear H1
                            have H' := Aside0.mk H
                            clear H
                            have p673 : 0 ≤ (x77_2 : Int) := of_decide_eq_true (by first | (with_reducible assumption) | assumption)
                            have q673 : x77_2 < (y669.length : Int) := of_decide_eq_true (by first | (with_reducible assumption) | assumption)
                            obtain ⟨ad673, e673, hx673_0⟩ := Kd.at_int (Kd.R_reads' HO_75.out).2.2 x77_2 p673 q673
                            cases e673
                            replace p673 := eq_true p673
                            replace q673 := eq_true q673
                            have hcz57_0 : wr.cell? ⟨gb650, 0, none⟩ = some (.int .u64 a0_0) := (blk_cell BK650.out 0).trans rfl
                            have hcz57_1 : wr.cell? ⟨gb650, 1, none⟩ = some (.int .u64 a0_1) := (blk_cell BK650.out 1).trans rfl
                            have hfz57_0 := blk_frozen BK650.out 0
                            have hfz57_1 := blk_frozen BK650.out 1
                            go_wp2_with (first | ((with_reducible refine gate_callee (f := 51) rfl ?_); refine goesL_ (some 85) rfl rfl Tryd.func51 (by kernel_rfl) rfl #[.agg #[.int .u64 a0_0, .int .u64 a0_1], .int .i64 (rd y669 x77_2), .int .u64 a1] rfl (by (try simp only [List.map_toArray, List.map_cons, List.map_nil]); first | done | rfl | (simp only [List.length_drop, List.length_take]; rfl)) ?_; (with_reducible refine (logfile_Head.calls k2 a0_0 a0_1 (rd y669 x77_2) a1 t674 t677 t678 _ A51.out).mono ?_); rintro e w58 ⟨v675, rfl, ho0, hb⟩; refine ⟨_, rfl, ?_⟩; have n0_ := Aside0.mk (Kd.R_below (by (with_reducible repeat (first | apply Kd.R_alloc | apply Kd.R_drewN | apply Kd.R_drew)); exact HO_75.out) hb); have n1_ := Aside0.mk (Kd.R_lower (Kd.R_newM (M := fun k_ => (w.heap.size ≤ k_)) ho0 (below_size (by repeat (first | (with_reducible first | exact HB.out | apply below_alloc | apply pw_below_drewN | apply below_drew1 | refine below_set ?_ GE650.out) | exact HB.out))) (fun k_ h_ => h_)) (below_size (by repeat (first | (with_reducible first | exact HB.out | apply below_alloc | apply pw_below_drewN | apply below_drew1 | refine below_set ?_ GE650.out) | exact HB.out)))); have n2_ := Aside0.mk (blk_below (g := gb650) (o := .cells #[.int .u64 a0_0, .int .u64 a0_1] 69 (0, 0)) (by (with_reducible repeat (first | refine blk_drewN ?_ _ | refine blk_drew ?_ | refine blk_alloc ?_ _)); exact BK650.out) hb); have n3_ := Aside0.mk (below_step (by repeat (first | (with_reducible first | exact HB.out | apply below_alloc | apply pw_below_drewN | apply below_drew1 | refine below_set ?_ GE650.out) | exact HB.out)) hb); clear HO_75; clear BK650; clear HB; have HO_75 := n0_; have HO676 := n1_; have BK650 := n2_; have HB := n3_; clear n0_ n1_ n2_ n3_; (try clear hb); (try clear hb2); (try clear hk); (try clear hi); (try clear ho0); have hcz59_0 : w58.cell? ⟨gb650, 0, none⟩ = some (.int .u64 a0_0) := (blk_cell BK650.out 0).trans rfl; have hcz59_1 : w58.cell? ⟨gb650, 1, none⟩ = some (.int .u64 a0_1) := (blk_cell BK650.out 1).trans rfl; have hfz59_0 := blk_frozen BK650.out 0; have hfz59_1 := blk_frozen BK650.out 1) | ((with_reducible refine gate_callee (f := 52) rfl ?_); refine goesL_ (some 93) rfl rfl Tryd.func52 (by kernel_rfl) rfl #[.agg #[.int .u64 a0_0, .int .u64 a0_1], .int .i64 (rd y669 x77_2), .int .u64 a1] rfl (by (try simp only [List.map_toArray, List.map_cons, List.map_nil]); first | done | rfl | (simp only [List.length_drop, List.length_take]; rfl)) ?_; (with_reducible refine (kauditref25_Head.calls k2 a0_0 a0_1 (rd y669 x77_2) a1 t679 t682 t683 _ A52.out).mono ?_); rintro e w60 ⟨v680, rfl, ho0, hb⟩; refine ⟨_, rfl, ?_⟩; have n0_ := Aside0.mk (Kd.R_below (by (with_reducible repeat (first | apply Kd.R_alloc | apply Kd.R_drewN | apply Kd.R_drew)); exact HO_75.out) hb); have n1_ := Aside0.mk (Kd.R_elder' (by (with_reducible repeat (first | apply Kd.R_alloc | apply Kd.R_drewN | apply Kd.R_drew)); exact HO676.out) (Kd.R_base ho0) hb); have n2_ := Aside0.mk (Kd.R_lower (Kd.R_new' (Kd.R_newM (M := fun k_ => (w.heap.size ≤ k_)) ho0 (below_size (by repeat (first | (with_reducible first | exact HB.out | apply below_alloc | apply pw_below_drewN | apply below_drew1 | refine below_set ?_ GE650.out) | exact HB.out))) (fun k_ h_ => h_)) (Kd.R_lt (by (with_reducible repeat (first | apply Kd.R_alloc | apply Kd.R_drewN | apply Kd.R_drew)); exact HO676.out))) (below_size (by repeat (first | (with_reducible first | exact HB.out | apply below_alloc | apply pw_below_drewN | apply below_drew1 | refine below_set ?_ GE650.out) | exact HB.out)))); have n3_ := Aside0.mk (blk_below (g := gb650) (o := .cells #[.int .u64 a0_0, .int .u64 a0_1] 69 (0, 0)) (by (with_reducible repeat (first | refine blk_drewN ?_ _ | refine blk_drew ?_ | refine blk_alloc ?_ _)); exact BK650.out) hb); have n4_ := Aside0.mk (below_step (by repeat (first | (with_reducible first | exact HB.out | apply below_alloc | apply pw_below_drewN | apply below_drew1 | refine below_set ?_ GE650.out) | exact HB.out)) hb); clear HO_75; clear HO676; clear BK650; clear HB; have HO_75 := n0_; have HO676 := n1_; have HO681 := n2_; have BK650 := n3_; have HB := n4_; clear n0_ n1_ n2_ n3_ n4_; (try clear hb); (try clear hb2); (try clear hk); (try clear hi); (try clear ho0); obtain ⟨Ao61, co61, eo61⟩ := Kd.R_slice HO676.out; subst eo61; obtain ⟨Ao62, co62, eo62⟩ := Kd.R_slice HO681.out; subst eo62) | (go_at_call 50; (with_reducible refine (kauditref24_SameBytes.calls _ _ t674 _ _ t679 true _ ?side1 ?side2 ?side3 ?side4 A55.out).mono ?_); (case side1 => repeat (first | exact (Kd.R_reads' HO676.out).2.2 | (with_reducible refine Kd.C_alloc ?_ _) | (with_reducible refine Kd.C_drewN ?_ _) | (with_reducible refine Kd.C_drew ?_))); (case side2 => exact (Kd.R_reads' HO676.out).2.1); (case side3 => repeat (first | exact (Kd.R_reads' HO681.out).2.2 | (with_reducible refine Kd.C_alloc ?_ _) | (with_reducible refine Kd.C_drewN ?_ _) | (with_reducible refine Kd.C_drew ?_))); (case side4 => exact (Kd.R_reads' HO681.out).2.1); rintro e w' ⟨rfl, ⟨nd, rfl⟩⟩))
                            go_roundg k2
                            case measure => have := HK1.out; have := HK2.out; omega
                            case rel => exact ⟨(wrap64 (x77_2 + 1)), (by first | rfl | (simp; done) | (simp [*]; done) | (simp only [isEmpty_ne_]; done)), (by first | exact H' | ((try subst hji6); exact H')), ⟨by have := HK1.out; have := HK2.out; omega⟩, ⟨by (with_reducible repeat (first | apply Kd.R_alloc | apply Kd.R_drewN | apply Kd.R_drew)); exact HO_75.out⟩, ⟨by (with_reducible repeat (first | refine blk_drewN ?_ _ | refine blk_drew ?_ | refine blk_alloc ?_ _)); exact BK650.out⟩, ⟨by repeat (first | (with_reducible first | exact HB.out | apply below_alloc | apply pw_below_drewN | apply below_drew1 | refine below_set ?_ GE650.out) | exact HB.out)⟩⟩
                          · replace c56 := Bool.eq_false_iff.mpr c56
                            subst c56
                            have H1 : (some false) = some r := by rw [if_neg (show ¬ (false = true) by decide)] at H; exact H
                            clear H
                            have H := H1
                            clear H1
                            obtain rfl := Option.some.inj H
                            have p673 : 0 ≤ (x77_2 : Int) := of_decide_eq_true (by first | (with_reducible assumption) | assumption)
                            have q673 : x77_2 < (y669.length : Int) := of_decide_eq_true (by first | (with_reducible assumption) | assumption)
                            obtain ⟨ad673, e673, hx673_0⟩ := Kd.at_int (Kd.R_reads' HO_75.out).2.2 x77_2 p673 q673
                            cases e673
                            replace p673 := eq_true p673
                            replace q673 := eq_true q673
                            have hcz63_0 : wr.cell? ⟨gb650, 0, none⟩ = some (.int .u64 a0_0) := (blk_cell BK650.out 0).trans rfl
                            have hcz63_1 : wr.cell? ⟨gb650, 1, none⟩ = some (.int .u64 a0_1) := (blk_cell BK650.out 1).trans rfl
                            have hfz63_0 := blk_frozen BK650.out 0
                            have hfz63_1 := blk_frozen BK650.out 1
                            go_wp2_with (first | ((with_reducible refine gate_callee (f := 51) rfl ?_); refine goesL_ (some 85) rfl rfl Tryd.func51 (by kernel_rfl) rfl #[.agg #[.int .u64 a0_0, .int .u64 a0_1], .int .i64 (rd y669 x77_2), .int .u64 a1] rfl (by (try simp only [List.map_toArray, List.map_cons, List.map_nil]); first | done | rfl | (simp only [List.length_drop, List.length_take]; rfl)) ?_; (with_reducible refine (logfile_Head.calls k2 a0_0 a0_1 (rd y669 x77_2) a1 t674 t677 t678 _ A51.out).mono ?_); rintro e w64 ⟨v675, rfl, ho0, hb⟩; refine ⟨_, rfl, ?_⟩; have n0_ := Aside0.mk (Kd.R_below (by (with_reducible repeat (first | apply Kd.R_alloc | apply Kd.R_drewN | apply Kd.R_drew)); exact HO_75.out) hb); have n1_ := Aside0.mk (Kd.R_lower (Kd.R_newM (M := fun k_ => (w.heap.size ≤ k_)) ho0 (below_size (by repeat (first | (with_reducible first | exact HB.out | apply below_alloc | apply pw_below_drewN | apply below_drew1 | refine below_set ?_ GE650.out) | exact HB.out))) (fun k_ h_ => h_)) (below_size (by repeat (first | (with_reducible first | exact HB.out | apply below_alloc | apply pw_below_drewN | apply below_drew1 | refine below_set ?_ GE650.out) | exact HB.out)))); have n2_ := Aside0.mk (blk_below (g := gb650) (o := .cells #[.int .u64 a0_0, .int .u64 a0_1] 69 (0, 0)) (by (with_reducible repeat (first | refine blk_drewN ?_ _ | refine blk_drew ?_ | refine blk_alloc ?_ _)); exact BK650.out) hb); have n3_ := Aside0.mk (below_step (by repeat (first | (with_reducible first | exact HB.out | apply below_alloc | apply pw_below_drewN | apply below_drew1 | refine below_set ?_ GE650.out) | exact HB.out)) hb); clear HO_75; clear BK650; clear HB; have HO_75 := n0_; have HO676 := n1_; have BK650 := n2_; have HB := n3_; clear n0_ n1_ n2_ n3_; (try clear hb); (try clear hb2); (try clear hk); (try clear hi); (try clear ho0); have hcz65_0 : w64.cell? ⟨gb650, 0, none⟩ = some (.int .u64 a0_0) := (blk_cell BK650.out 0).trans rfl; have hcz65_1 : w64.cell? ⟨gb650, 1, none⟩ = some (.int .u64 a0_1) := (blk_cell BK650.out 1).trans rfl; have hfz65_0 := blk_frozen BK650.out 0; have hfz65_1 := blk_frozen BK650.out 1) | ((with_reducible refine gate_callee (f := 52) rfl ?_); refine goesL_ (some 93) rfl rfl Tryd.func52 (by kernel_rfl) rfl #[.agg #[.int .u64 a0_0, .int .u64 a0_1], .int .i64 (rd y669 x77_2), .int .u64 a1] rfl (by (try simp only [List.map_toArray, List.map_cons, List.map_nil]); first | done | rfl | (simp only [List.length_drop, List.length_take]; rfl)) ?_; (with_reducible refine (kauditref25_Head.calls k2 a0_0 a0_1 (rd y669 x77_2) a1 t679 t682 t683 _ A52.out).mono ?_); rintro e w66 ⟨v680, rfl, ho0, hb⟩; refine ⟨_, rfl, ?_⟩; have n0_ := Aside0.mk (Kd.R_below (by (with_reducible repeat (first | apply Kd.R_alloc | apply Kd.R_drewN | apply Kd.R_drew)); exact HO_75.out) hb); have n1_ := Aside0.mk (Kd.R_elder' (by (with_reducible repeat (first | apply Kd.R_alloc | apply Kd.R_drewN | apply Kd.R_drew)); exact HO676.out) (Kd.R_base ho0) hb); have n2_ := Aside0.mk (Kd.R_lower (Kd.R_new' (Kd.R_newM (M := fun k_ => (w.heap.size ≤ k_)) ho0 (below_size (by repeat (first | (with_reducible first | exact HB.out | apply below_alloc | apply pw_below_drewN | apply below_drew1 | refine below_set ?_ GE650.out) | exact HB.out))) (fun k_ h_ => h_)) (Kd.R_lt (by (with_reducible repeat (first | apply Kd.R_alloc | apply Kd.R_drewN | apply Kd.R_drew)); exact HO676.out))) (below_size (by repeat (first | (with_reducible first | exact HB.out | apply below_alloc | apply pw_below_drewN | apply below_drew1 | refine below_set ?_ GE650.out) | exact HB.out)))); have n3_ := Aside0.mk (blk_below (g := gb650) (o := .cells #[.int .u64 a0_0, .int .u64 a0_1] 69 (0, 0)) (by (with_reducible repeat (first | refine blk_drewN ?_ _ | refine blk_drew ?_ | refine blk_alloc ?_ _)); exact BK650.out) hb); have n4_ := Aside0.mk (below_step (by repeat (first | (with_reducible first | exact HB.out | apply below_alloc | apply pw_below_drewN | apply below_drew1 | refine below_set ?_ GE650.out) | exact HB.out)) hb); clear HO_75; clear HO676; clear BK650; clear HB; have HO_75 := n0_; have HO676 := n1_; have HO681 := n2_; have BK650 := n3_; have HB := n4_; clear n0_ n1_ n2_ n3_ n4_; (try clear hb); (try clear hb2); (try clear hk); (try clear hi); (try clear ho0); obtain ⟨Ao67, co67, eo67⟩ := Kd.R_slice HO676.out; subst eo67; obtain ⟨Ao68, co68, eo68⟩ := Kd.R_slice HO681.out; subst eo68) | (go_at_call 50; (with_reducible refine (kauditref24_SameBytes.calls _ _ t674 _ _ t679 false _ ?side1 ?side2 ?side3 ?side4 A55.out).mono ?_); (case side1 => repeat (first | exact (Kd.R_reads' HO676.out).2.2 | (with_reducible refine Kd.C_alloc ?_ _) | (with_reducible refine Kd.C_drewN ?_ _) | (with_reducible refine Kd.C_drew ?_))); (case side2 => exact (Kd.R_reads' HO676.out).2.1); (case side3 => repeat (first | exact (Kd.R_reads' HO681.out).2.2 | (with_reducible refine Kd.C_alloc ?_ _) | (with_reducible refine Kd.C_drewN ?_ _) | (with_reducible refine Kd.C_drew ?_))); (case side4 => exact (Kd.R_reads' HO681.out).2.1); rintro e w' ⟨rfl, ⟨nd, rfl⟩⟩))
                            go_ret
                            exact ⟨by first | rfl | (simp [errW_none, errW_some] <;> rfl) | (simp only [← hji6]; first | rfl | (simp [errW_none, errW_some] <;> rfl)) | (simp [*, errW_none, errW_some] <;> rfl) | (simp only [isEmpty_ne_, isEmpty_eq_]; rfl) | (simp [*, isEmpty_ne_, isEmpty_eq_]; done), by repeat (first | (with_reducible first | exact HB.out | apply below_alloc | apply pw_below_drewN | apply below_drew1 | refine below_set ?_ GE650.out) | exact HB.out)⟩
                        · rw [if_neg c54] at H
                          have c54b0 : (t677 == t682) = false := beq_eq_false_iff_ne.mpr c54
                          have c54b1 : (t677 != t682) = true := bne_iff_ne.mpr c54
                          obtain rfl := Option.some.inj H
                          have p673 : 0 ≤ (x77_2 : Int) := of_decide_eq_true (by first | (with_reducible assumption) | assumption)
                          have q673 : x77_2 < (y669.length : Int) := of_decide_eq_true (by first | (with_reducible assumption) | assumption)
                          obtain ⟨ad673, e673, hx673_0⟩ := Kd.at_int (Kd.R_reads' HO_75.out).2.2 x77_2 p673 q673
                          cases e673
                          replace p673 := eq_true p673
                          replace q673 := eq_true q673
                          have hcz69_0 : wr.cell? ⟨gb650, 0, none⟩ = some (.int .u64 a0_0) := (blk_cell BK650.out 0).trans rfl
                          have hcz69_1 : wr.cell? ⟨gb650, 1, none⟩ = some (.int .u64 a0_1) := (blk_cell BK650.out 1).trans rfl
                          have hfz69_0 := blk_frozen BK650.out 0
                          have hfz69_1 := blk_frozen BK650.out 1
                          go_wp2_with (first | ((with_reducible refine gate_callee (f := 51) rfl ?_); refine goesL_ (some 85) rfl rfl Tryd.func51 (by kernel_rfl) rfl #[.agg #[.int .u64 a0_0, .int .u64 a0_1], .int .i64 (rd y669 x77_2), .int .u64 a1] rfl (by (try simp only [List.map_toArray, List.map_cons, List.map_nil]); first | done | rfl | (simp only [List.length_drop, List.length_take]; rfl)) ?_; (with_reducible refine (logfile_Head.calls k2 a0_0 a0_1 (rd y669 x77_2) a1 t674 t677 t678 _ A51.out).mono ?_); rintro e w70 ⟨v675, rfl, ho0, hb⟩; refine ⟨_, rfl, ?_⟩; have n0_ := Aside0.mk (Kd.R_below (by (with_reducible repeat (first | apply Kd.R_alloc | apply Kd.R_drewN | apply Kd.R_drew)); exact HO_75.out) hb); have n1_ := Aside0.mk (Kd.R_lower (Kd.R_newM (M := fun k_ => (w.heap.size ≤ k_)) ho0 (below_size (by repeat (first | (with_reducible first | exact HB.out | apply below_alloc | apply pw_below_drewN | apply below_drew1 | refine below_set ?_ GE650.out) | exact HB.out))) (fun k_ h_ => h_)) (below_size (by repeat (first | (with_reducible first | exact HB.out | apply below_alloc | apply pw_below_drewN | apply below_drew1 | refine below_set ?_ GE650.out) | exact HB.out)))); have n2_ := Aside0.mk (blk_below (g := gb650) (o := .cells #[.int .u64 a0_0, .int .u64 a0_1] 69 (0, 0)) (by (with_reducible repeat (first | refine blk_drewN ?_ _ | refine blk_drew ?_ | refine blk_alloc ?_ _)); exact BK650.out) hb); have n3_ := Aside0.mk (below_step (by repeat (first | (with_reducible first | exact HB.out | apply below_alloc | apply pw_below_drewN | apply below_drew1 | refine below_set ?_ GE650.out) | exact HB.out)) hb); clear HO_75; clear BK650; clear HB; have HO_75 := n0_; have HO676 := n1_; have BK650 := n2_; have HB := n3_; clear n0_ n1_ n2_ n3_; (try clear hb); (try clear hb2); (try clear hk); (try clear hi); (try clear ho0); have hcz71_0 : w70.cell? ⟨gb650, 0, none⟩ = some (.int .u64 a0_0) := (blk_cell BK650.out 0).trans rfl; have hcz71_1 : w70.cell? ⟨gb650, 1, none⟩ = some (.int .u64 a0_1) := (blk_cell BK650.out 1).trans rfl; have hfz71_0 := blk_frozen BK650.out 0; have hfz71_1 := blk_frozen BK650.out 1) | ((with_reducible refine gate_callee (f := 52) rfl ?_); refine goesL_ (some 93) rfl rfl Tryd.func52 (by kernel_rfl) rfl #[.agg #[.int .u64 a0_0, .int .u64 a0_1], .int .i64 (rd y669 x77_2), .int .u64 a1] rfl (by (try simp only [List.map_toArray, List.map_cons, List.map_nil]); first | done | rfl | (simp only [List.length_drop, List.length_take]; rfl)) ?_; (with_reducible refine (kauditref25_Head.calls k2 a0_0 a0_1 (rd y669 x77_2) a1 t679 t682 t683 _ A52.out).mono ?_); rintro e w72 ⟨v680, rfl, ho0, hb⟩; refine ⟨_, rfl, ?_⟩; have n0_ := Aside0.mk (Kd.R_below (by (with_reducible repeat (first | apply Kd.R_alloc | apply Kd.R_drewN | apply Kd.R_drew)); exact HO_75.out) hb); have n1_ := Aside0.mk (Kd.R_elder' (by (with_reducible repeat (first | apply Kd.R_alloc | apply Kd.R_drewN | apply Kd.R_drew)); exact HO676.out) (Kd.R_base ho0) hb); have n2_ := Aside0.mk (Kd.R_lower (Kd.R_new' (Kd.R_newM (M := fun k_ => (w.heap.size ≤ k_)) ho0 (below_size (by repeat (first | (with_reducible first | exact HB.out | apply below_alloc | apply pw_below_drewN | apply below_drew1 | refine below_set ?_ GE650.out) | exact HB.out))) (fun k_ h_ => h_)) (Kd.R_lt (by (with_reducible repeat (first | apply Kd.R_alloc | apply Kd.R_drewN | apply Kd.R_drew)); exact HO676.out))) (below_size (by repeat (first | (with_reducible first | exact HB.out | apply below_alloc | apply pw_below_drewN | apply below_drew1 | refine below_set ?_ GE650.out) | exact HB.out)))); have n3_ := Aside0.mk (blk_below (g := gb650) (o := .cells #[.int .u64 a0_0, .int .u64 a0_1] 69 (0, 0)) (by (with_reducible repeat (first | refine blk_drewN ?_ _ | refine blk_drew ?_ | refine blk_alloc ?_ _)); exact BK650.out) hb); have n4_ := Aside0.mk (below_step (by repeat (first | (with_reducible first | exact HB.out | apply below_alloc | apply pw_below_drewN | apply below_drew1 | refine below_set ?_ GE650.out) | exact HB.out)) hb); clear HO_75; clear HO676; clear BK650; clear HB; have HO_75 := n0_; have HO676 := n1_; have HO681 := n2_; have BK650 := n3_; have HB := n4_; clear n0_ n1_ n2_ n3_ n4_; (try clear hb); (try clear hb2); (try clear hk); (try clear hi); (try clear ho0)))
                          go_ret
                          exact ⟨by first | rfl | (simp [errW_none, errW_some] <;> rfl) | (simp only [← hji6]; first | rfl | (simp [errW_none, errW_some] <;> rfl)) | (simp [*, errW_none, errW_some] <;> rfl) | (simp only [isEmpty_ne_, isEmpty_eq_]; rfl) | (simp [*, isEmpty_ne_, isEmpty_eq_]; done), by repeat (first | (with_reducible first | exact HB.out | apply below_alloc | apply pw_below_drewN | apply below_drew1 | refine below_set ?_ GE650.out) | exact HB.out)⟩
                      · rw [if_neg c53] at H
                        have c53b0 : (t678 == t683) = false := beq_eq_false_iff_ne.mpr c53
                        have c53b1 : (t678 != t683) = true := bne_iff_ne.mpr c53
                        obtain rfl := Option.some.inj H
                        have p673 : 0 ≤ (x77_2 : Int) := of_decide_eq_true (by first | (with_reducible assumption) | assumption)
                        have q673 : x77_2 < (y669.length : Int) := of_decide_eq_true (by first | (with_reducible assumption) | assumption)
                        obtain ⟨ad673, e673, hx673_0⟩ := Kd.at_int (Kd.R_reads' HO_75.out).2.2 x77_2 p673 q673
                        cases e673
                        replace p673 := eq_true p673
                        replace q673 := eq_true q673
                        have hcz73_0 : wr.cell? ⟨gb650, 0, none⟩ = some (.int .u64 a0_0) := (blk_cell BK650.out 0).trans rfl
                        have hcz73_1 : wr.cell? ⟨gb650, 1, none⟩ = some (.int .u64 a0_1) := (blk_cell BK650.out 1).trans rfl
                        have hfz73_0 := blk_frozen BK650.out 0
                        have hfz73_1 := blk_frozen BK650.out 1
                        go_wp2_with (first | ((with_reducible refine gate_callee (f := 51) rfl ?_); refine goesL_ (some 85) rfl rfl Tryd.func51 (by kernel_rfl) rfl #[.agg #[.int .u64 a0_0, .int .u64 a0_1], .int .i64 (rd y669 x77_2), .int .u64 a1] rfl (by (try simp only [List.map_toArray, List.map_cons, List.map_nil]); first | done | rfl | (simp only [List.length_drop, List.length_take]; rfl)) ?_; (with_reducible refine (logfile_Head.calls k2 a0_0 a0_1 (rd y669 x77_2) a1 t674 t677 t678 _ A51.out).mono ?_); rintro e w74 ⟨v675, rfl, ho0, hb⟩; refine ⟨_, rfl, ?_⟩; have n0_ := Aside0.mk (Kd.R_below (by (with_reducible repeat (first | apply Kd.R_alloc | apply Kd.R_drewN | apply Kd.R_drew)); exact HO_75.out) hb); have n1_ := Aside0.mk (Kd.R_lower (Kd.R_newM (M := fun k_ => (w.heap.size ≤ k_)) ho0 (below_size (by repeat (first | (with_reducible first | exact HB.out | apply below_alloc | apply pw_below_drewN | apply below_drew1 | refine below_set ?_ GE650.out) | exact HB.out))) (fun k_ h_ => h_)) (below_size (by repeat (first | (with_reducible first | exact HB.out | apply below_alloc | apply pw_below_drewN | apply below_drew1 | refine below_set ?_ GE650.out) | exact HB.out)))); have n2_ := Aside0.mk (blk_below (g := gb650) (o := .cells #[.int .u64 a0_0, .int .u64 a0_1] 69 (0, 0)) (by (with_reducible repeat (first | refine blk_drewN ?_ _ | refine blk_drew ?_ | refine blk_alloc ?_ _)); exact BK650.out) hb); have n3_ := Aside0.mk (below_step (by repeat (first | (with_reducible first | exact HB.out | apply below_alloc | apply pw_below_drewN | apply below_drew1 | refine below_set ?_ GE650.out) | exact HB.out)) hb); clear HO_75; clear BK650; clear HB; have HO_75 := n0_; have HO676 := n1_; have BK650 := n2_; have HB := n3_; clear n0_ n1_ n2_ n3_; (try clear hb); (try clear hb2); (try clear hk); (try clear hi); (try clear ho0); have hcz75_0 : w74.cell? ⟨gb650, 0, none⟩ = some (.int .u64 a0_0) := (blk_cell BK650.out 0).trans rfl; have hcz75_1 : w74.cell? ⟨gb650, 1, none⟩ = some (.int .u64 a0_1) := (blk_cell BK650.out 1).trans rfl; have hfz75_0 := blk_frozen BK650.out 0; have hfz75_1 := blk_frozen BK650.out 1) | ((with_reducible refine gate_callee (f := 52) rfl ?_); refine goesL_ (some 93) rfl rfl Tryd.func52 (by kernel_rfl) rfl #[.agg #[.int .u64 a0_0, .int .u64 a0_1], .int .i64 (rd y669 x77_2), .int .u64 a1] rfl (by (try simp only [List.map_toArray, List.map_cons, List.map_nil]); first | done | rfl | (simp only [List.length_drop, List.length_take]; rfl)) ?_; (with_reducible refine (kauditref25_Head.calls k2 a0_0 a0_1 (rd y669 x77_2) a1 t679 t682 t683 _ A52.out).mono ?_); rintro e w76 ⟨v680, rfl, ho0, hb⟩; refine ⟨_, rfl, ?_⟩; have n0_ := Aside0.mk (Kd.R_below (by (with_reducible repeat (first | apply Kd.R_alloc | apply Kd.R_drewN | apply Kd.R_drew)); exact HO_75.out) hb); have n1_ := Aside0.mk (Kd.R_elder' (by (with_reducible repeat (first | apply Kd.R_alloc | apply Kd.R_drewN | apply Kd.R_drew)); exact HO676.out) (Kd.R_base ho0) hb); have n2_ := Aside0.mk (Kd.R_lower (Kd.R_new' (Kd.R_newM (M := fun k_ => (w.heap.size ≤ k_)) ho0 (below_size (by repeat (first | (with_reducible first | exact HB.out | apply below_alloc | apply pw_below_drewN | apply below_drew1 | refine below_set ?_ GE650.out) | exact HB.out))) (fun k_ h_ => h_)) (Kd.R_lt (by (with_reducible repeat (first | apply Kd.R_alloc | apply Kd.R_drewN | apply Kd.R_drew)); exact HO676.out))) (below_size (by repeat (first | (with_reducible first | exact HB.out | apply below_alloc | apply pw_below_drewN | apply below_drew1 | refine below_set ?_ GE650.out) | exact HB.out)))); have n3_ := Aside0.mk (blk_below (g := gb650) (o := .cells #[.int .u64 a0_0, .int .u64 a0_1] 69 (0, 0)) (by (with_reducible repeat (first | refine blk_drewN ?_ _ | refine blk_drew ?_ | refine blk_alloc ?_ _)); exact BK650.out) hb); have n4_ := Aside0.mk (below_step (by repeat (first | (with_reducible first | exact HB.out | apply below_alloc | apply pw_below_drewN | apply below_drew1 | refine below_set ?_ GE650.out) | exact HB.out)) hb); clear HO_75; clear HO676; clear BK650; clear HB; have HO_75 := n0_; have HO676 := n1_; have HO681 := n2_; have BK650 := n3_; have HB := n4_; clear n0_ n1_ n2_ n3_ n4_; (try clear hb); (try clear hb2); (try clear hk); (try clear hi); (try clear ho0)))
                        go_ret
                        exact ⟨by first | rfl | (simp [errW_none, errW_some] <;> rfl) | (simp only [← hji6]; first | rfl | (simp [errW_none, errW_some] <;> rfl)) | (simp [*, errW_none, errW_some] <;> rfl) | (simp only [isEmpty_ne_, isEmpty_eq_]; rfl) | (simp [*, isEmpty_ne_, isEmpty_eq_]; done), by repeat (first | (with_reducible first | exact HB.out | apply below_alloc | apply pw_below_drewN | apply below_drew1 | refine below_set ?_ GE650.out) | exact HB.out)⟩
                    · rw [if_neg c50] at H
                      exact absurd H (by simp)
                  · rw [if_neg c49] at H
                    exact absurd H (by simp)
                · rw [if_neg c48] at H
                  have c48b0 : decide (x77_2 < (y669.length : Int)) = false := decide_eq_false c48
                  clear c48
                  replace H := Option.bind_eq_some_iff.mp H
                  obtain ⟨t672, A770, H⟩ := H
                  replace H : (some t672) = some r := H
                  have A77 := Aside0.mk A770
                  clear A770
                  obtain rfl := Option.some.inj H
                  go_wp2_with (first | ((with_reducible refine gate_callee (f := 53) rfl ?_); refine goesL_ (some 112) rfl rfl Tryd.func53 (by kernel_rfl) rfl #[] rfl (by (try simp only [List.map_toArray, List.map_cons, List.map_nil]); first | done | rfl | (simp only [List.length_drop, List.length_take]; rfl)) ?_; (with_reducible refine (kauditlaw25_begun.calls k2  t672 _ ?side1 A77.out).mono ?_); (case side1 => refine GL.below HGL.out ?_; repeat (first | (with_reducible first | exact HB.out | apply below_alloc | apply pw_below_drewN | apply below_drew1 | refine below_set ?_ GE650.out) | exact HB.out)); rintro e w78 ⟨rfl, hb⟩; refine ⟨_, rfl, ?_⟩; have n0_ := Aside0.mk (Kd.R_below (by (with_reducible repeat (first | apply Kd.R_alloc | apply Kd.R_drewN | apply Kd.R_drew)); exact HO_75.out) hb); have n1_ := Aside0.mk (blk_below (g := gb650) (o := .cells #[.int .u64 a0_0, .int .u64 a0_1] 69 (0, 0)) (by (with_reducible repeat (first | refine blk_drewN ?_ _ | refine blk_drew ?_ | refine blk_alloc ?_ _)); exact BK650.out) hb); have n2_ := Aside0.mk (below_step (by repeat (first | (with_reducible first | exact HB.out | apply below_alloc | apply pw_below_drewN | apply below_drew1 | refine below_set ?_ GE650.out) | exact HB.out)) hb); clear HO_75; clear BK650; clear HB; have HO_75 := n0_; have BK650 := n1_; have HB := n2_; clear n0_ n1_ n2_; (try clear hb); (try clear hb2); (try clear hk); (try clear hi)))
                  go_ret
                  exact ⟨by first | rfl | (simp [errW_none, errW_some] <;> rfl) | (simp only [← hji6]; first | rfl | (simp [errW_none, errW_some] <;> rfl)) | (simp [*, errW_none, errW_some] <;> rfl) | (simp only [isEmpty_ne_, isEmpty_eq_]; rfl) | (simp [*, isEmpty_ne_, isEmpty_eq_]; done), by repeat (first | (with_reducible first | exact HB.out | apply below_alloc | apply pw_below_drewN | apply below_drew1 | refine below_set ?_ GE650.out) | exact HB.out)⟩
    · rw [if_neg c8] at H
      exact absurd H (by simp)
  · rw [if_neg c7] at H
    exact absurd H (by simp)
end Go.Proofs.YtjnlmmjadlidlaaDoor.PRec
end
section
namespace Go.Proofs.YtjnlmmjadlidlaaDoor.Open
open Go.ChangeShapes Go.WideShapes Go.RowKit Go.Proofs.YtjnlmmjadlidlaaDoorW.PrintWords
section
variable {H : Type} (enc : TypeId × Value → H) (P : Program) (w : World) (base : Nat) (spare : Nat → Bool) (held : Bool)
def Opens {α : Type} (t : TypeId) (d : Kd α) (Q : α → Prop) : Prop :=
  ∀ (n : Nat) (cs : List Value) (x : DataW H × List MemPlace), DataW.trod enc P w base spare held n t cs = some x → ∃ y, d.K w y cs ∧ Q y
def Chain {α : Type} (off : Nat) (fs : List Field) (d : Kd α) (Q : α → Prop) : Prop :=
  ∀ (n : Nat) (cs : List Value), cs.length = off + d.sz → (∀ f ∈ fs, ∃ x, DataW.trod enc P w base spare held n f.type ((cs.drop f.offset).take (P.cellsOf f.type)) = some x) → ∃ y, d.K w y (cs.drop off) ∧ Q y
end
section
variable {H : Type} {enc : TypeId × Value → H} {P : Program} {w : World} {base : Nat} {spare : Nat → Bool} {held : Bool}
theorem opens_int {t : TypeId} {k : IntKind} (ht : P.underlying t = some (.int k)) : Opens enc P w base spare held t (Kd.int k) (fun n => (Lit.int k n).wf = true) := by
  intro n cs x h
  obtain ⟨m, rfl, _, hw⟩ := DataW.trod_int ht h
  exact ⟨m, rfl, hw⟩
theorem chain_one {α : Type} {off : Nat} {f : Field} {d : Kd α} {Q : α → Prop} (ho : f.offset = off) (hc : P.cellsOf f.type = d.sz) (h : Opens enc P w base spare held f.type d Q) : Chain enc P w base spare held off [f] d Q := by
  intro n cs hl hx
  obtain ⟨x, hx⟩ := hx f (List.mem_singleton.2 rfl)
  rw [ho, hc, List.take_of_length_le (by rw [List.length_drop]; omega)] at hx
  exact h _ _ _ hx
theorem chain_cons {α β : Type} {off : Nat} {f : Field} {fs : List Field} {a : Kd α} {b : Kd β} {Q : α → Prop} {R : β → Prop} (ho : f.offset = off) (hc : P.cellsOf f.type = a.sz) (h : Opens enc P w base spare held f.type a Q)
    (hr : Chain enc P w base spare held (off + a.sz) fs b R) : Chain enc P w base spare held off (f :: fs) (Kd.pair a b) (fun p => Q p.1 ∧ R p.2) := by
  intro n cs hl hx
  have hl' : cs.length = off + (a.sz + b.sz) := hl
  obtain ⟨x, hf⟩ := hx f (List.mem_cons_self ..)
  rw [ho, hc] at hf
  obtain ⟨y, hK, hQ⟩ := h _ _ _ hf
  obtain ⟨z, hKz, hR⟩ := hr n cs (by omega) (fun g hg => hx g (List.mem_cons_of_mem _ hg))
  refine ⟨(y, z), ⟨_, _, ?_, hK, hKz⟩, hQ, hR⟩
  rw [← List.drop_drop, List.take_append_drop]
theorem opens_struct {α : Type} {t : TypeId} {fs : Array Field} {d : Kd α} {Q : α → Prop} (ht : P.underlying t = some (.struct fs)) (hc : P.cellsOf t = d.sz) (h : Chain enc P w base spare held 0 fs.toList d Q) : Opens enc P w base spare held t d Q := by
  intro n cs x hx
  obtain ⟨xs, k, _, rfl, hl, hlen, hf⟩ := DataW.trod_struct ht hx
  obtain ⟨y, hK, hQ⟩ := h k cs (by omega) (fun f hf' => by
    obtain ⟨i, hi⟩ := List.getElem?_of_mem hf'
    rw [Array.getElem?_toList] at hi
    have hlt : i < xs.length := by rw [hlen]; exact (Array.getElem?_eq_some_iff.1 hi).1
    exact ⟨xs[i], by rw [hf i f hi, List.getElem?_eq_getElem hlt]⟩)
  exact ⟨y, by simpa using hK, hQ⟩
theorem opens_iso {α β : Type} {t : TypeId} {d : Kd α} {Q : α → Prop} {f : β → α} (g : α → β) (hg : ∀ y, f (g y) = y) (h : Opens enc P w base spare held t d Q) : Opens enc P w base spare held t (Kd.iso d f) (fun x => Q (f x)) := by
  intro n cs x hx
  obtain ⟨y, hK, hQ⟩ := h n cs x hx
  exact ⟨g y, show d.K w (f (g y)) cs by rw [hg]; exact hK, show Q (f (g y)) by rw [hg]; exact hQ⟩
theorem opens_agg {α : Type} {r : Reach} {b0 : Nat} {t : TypeId} {fs : Array Field} {v : Value} {d : Kd α} {Q : α → Prop} {D : DataW H} {ps : List MemPlace} (ht : P.underlying t = some (.struct fs)) (hv : Value.okWide P w r b0 t v)
    (hE : Opens enc P w base spare held t d Q) (h : DataW.Trod enc P w base spare held t v D ps) : ∃ (cs : Array Value) (y : α), v = .agg cs ∧ d.K w y cs.toList ∧ Q y := by
  obtain ⟨cs, rfl, _⟩ := okWide_struct ht hv
  obtain ⟨n, h⟩ := h
  obtain ⟨y, hK, hQ⟩ := hE n _ _ h
  exact ⟨cs, y, rfl, by simpa [Value.cells] using hK, hQ⟩
theorem V_came {α : Type} {d : Kd α} (hd : Kd.Heap d) {e b : Nat} {A : Option Addr} {c : Nat} {xs : List α} (hl : xs.length ≤ c) (h : d.C w A xs.length xs) : Kd.V d e w b (fun k => k < w.heap.size) (.slice A xs.length c) xs :=
  Kd.V_mk hl (Kd.C_F hd h)
end
end Go.Proofs.YtjnlmmjadlidlaaDoor.Open
end
section
namespace Go.Proofs.YtjnlmmjadlidlaaDoor.Open3
open Go.ChangeShapes Go.WideShapes Go.RowKit Go.Proofs.YtjnlmmjadlidlaaDoorW.PrintWords Go.Proofs.YtjnlmmjadlidlaaDoor.PRec Go.Proofs.YtjnlmmjadlidlaaDoor.Open
structure SKey where
  f0 : Int
  f1 : Int
def kKey : Kd SKey := Kd.iso (Kd.pair (Kd.int .u64) (Kd.int .u64)) (fun x : SKey => (x.f0, x.f1))
theorem kKey_open {w : World} {x : SKey} {cs : List Value} (h : kKey.K w x cs) : cs = [.int .u64 x.f0, .int .u64 x.f1] := by
  obtain ⟨_, _, rfl, rfl, rfl⟩ := h
  exact rfl
def QKey (x : SKey) : Prop := (Lit.int .u64 x.f0).wf = true ∧ (Lit.int .u64 x.f1).wf = true
section
variable {H : Type} {enc : TypeId × Value → H} {w : World} {base : Nat} {spare : Nat → Bool} {held : Bool}
theorem opens69 : Opens enc Tryd.prog w base spare held 69 kKey QKey :=
  opens_iso (f := fun x : SKey => (x.f0, x.f1)) (fun p => (⟨p.1, p.2⟩ : SKey)) (fun _ => rfl)
    (opens_struct Tryd.underlying69 (by kernel_rfl) (chain_cons rfl (by kernel_rfl) (opens_int Tryd.underlying67) (chain_one rfl (by kernel_rfl) (opens_int Tryd.underlying67))))
end
end Go.Proofs.YtjnlmmjadlidlaaDoor.Open3
end
section
namespace Go.Proofs.YtjnlmmjadlidlaaDoor.Pure3
open Go.RowKit Go.Proofs.YtjnlmmjadlidlaaDoor.PRec Go.Proofs.YtjnlmmjadlidlaaDoorW.PrintWords
theorem begunCheck_ev : Ev (fun k => logfile_Check.f k 2 0 0 0 ([] : List S50) false 3 5 2 0 (⟨#[]⟩ : ByteArray) 0 0 ([] : List Int)) 0 := by
  refine ⟨10, fun k hk => ?_⟩
  obtain ⟨k, rfl⟩ : ∃ q, k = q + 4 := ⟨k - 4, by omega⟩
  have e : (⟨#[]⟩ : ByteArray).toList = [] := empty_toList
  show logfile_Check.f (k + 4) 2 0 0 0 ([] : List S50) false 3 5 2 0 (⟨#[]⟩ : ByteArray) 0 0 ([] : List Int) = some 0
  unfold logfile_Check.f
  rw [if_neg (by decide), if_pos rfl]
  have h : logfile_checkMark.f 3 5 2 0 = some 0 := by decide +kernel
  rw [h]
  simp only [Option.bind_some, logfile_Check.j0, logfile_Check.j1, logfile_Check.j2, logfile_Check.j3]
  simp [e]
theorem begunEncode_ev : Ev (fun k => logfile_Encode.f k 2 0 0 0 ([] : List S50) false 3 5 2 0 (⟨#[]⟩ : ByteArray) 0 0 ([] : List Int)) ([2, 3, 5, 2, 0], 0) := by
  refine Ev.bind begunCheck_ev (Ev.congr (fun k => if_pos rfl) ?_)
  refine Ev.bind (nums_ev [] [2] (fun x hx => by rw [List.mem_singleton.1 hx]; omega) (by decide) (by decide)) (Ev.congr (fun k => by rw [if_neg (by decide), if_pos rfl]) ?_)
  refine Ev.bind (nums_ev _ [3, 5, 2, 0] (fun x hx => by simp only [List.mem_cons, List.not_mem_nil, or_false] at hx; omega) (by decide) ?_) ?_
  · simp [vints, vint_small]
  · refine Ev.congr (fun k => ?_) (Ev.now _)
    rw [if_neg (by decide)]
    simp [vints, vint_small]
theorem one_bytes : Bytes [1] := fun x hx => by rw [List.mem_singleton.1 hx]; omega
theorem begun_digest : (chainV 0 0 0 [1] != 0) = true := by decide +kernel
theorem begun_frame : frameV 0 0 0 [1] = ((four 1 ++ [1]) ++ putB (chainV 0 0 0 [1]), chainV 0 0 0 [1], 0) := by
  unfold frameV
  rw [if_neg (by decide)]
  rfl
theorem begun_ev : Ev (fun k => kauditlaw25_begun.f k) true := by
  unfold kauditlaw25_begun.f
  refine Ev.bind begunEncode_ev ?_
  refine Ev.bind (frame_ev 0 0 0 [1] (by decide) one_bytes) (Ev.congr (fun k => if_pos rfl) ?_)
  simp only [same_self, Option.bind_some]
  rw [begun_frame]
  refine Ev.congr (fun k => ?_) (Ev.now _)
  have hl : ((((four 1 ++ [1]) ++ putB (chainV 0 0 0 [1]) : List Int).length : Nat) : Int) = 13 := by rw [List.length_append, List.length_append, putB_len]; rfl
  rw [if_pos trivial, if_pos rfl]
  show (if ((((four 1 ++ [1]) ++ putB (chainV 0 0 0 [1]) : List Int).length : Nat) : Int) = 13 then some (chainV 0 0 0 [1] != 0) else some false) = some true
  rw [if_pos hl, begun_digest]
theorem byte8 {x : Int} (h : (Lit.int .u8 x).wf = true) : 0 ≤ x ∧ x ≤ 255 := bounds_u8 h
theorem wf8 {l : List Int} (h : ∀ x ∈ l, (Lit.int .u8 x).wf = true) : Bytes l := fun x hx => byte8 (h x hx)
theorem frames_l0 (x0 x1 b n long : Int) (L : List (List Int)) (hL : ∀ p ∈ L, p.length ≤ 140737488351232 ∧ Bytes p) (hlen : L.length ≤ 100) (R : Bool)
    (H : Ev (fun k => kauditlaw25_LogfileFrames.l1 k b [n, wrap64 (1 + (Int.tmod (wrap64 long) 1000)), 0, 1001] 4 0 x0 x1) R) (d : Nat) : ∀ i : Nat, i + d = L.length →
    Ev (fun k => kauditlaw25_LogfileFrames.l0 k b n long L (L.length : Int) (i : Int) x0 x1) R := by
  induction d with
  | zero =>
    intro i hi
    refine Ev.step (f := fun k => kauditlaw25_LogfileFrames.l1 k b [n, wrap64 (1 + (Int.tmod (wrap64 long) 1000)), 0, 1001] 4 0 x0 x1) (fun k => ?_) H
    simp only [kauditlaw25_LogfileFrames.l0]
    rw [if_neg (by omega)]
    rfl
  | succ d ih =>
    intro i hi
    have hp : rd_L11 L (i : Int) ∈ L := by
      unfold rd_L11
      rw [Int.toNat_natCast, List.getD_eq_getElem?_getD, List.getElem?_eq_getElem (by omega), Option.getD_some]
      exact List.getElem_mem _
    obtain ⟨h1, h2⟩ := hL _ hp
    refine Ev.step (f := fun k => (logfile_Frame.f k x0 x1 b (rd_L11 L (i : Int))).bind fun bt658 => ((kauditref25_Frame.f k x0 x1 b (rd_L11 L (i : Int))).bind fun bt663 => (if bt658.2.2 = bt663.2.2 then (if bt658.2.1 = bt663.2.1 then ((kauditref24_SameBytes.f bt658.1 bt663.1).bind fun t668 => (if t668 = true then (kauditlaw25_LogfileFrames.l0 k b n long L (L.length : Int) ((i + 1 : Nat) : Int) x0 x1) else (some false))) else (some false)) else (some false)))) (fun k => ?_) ?_
    · simp only [kauditlaw25_LogfileFrames.l0]
      rw [if_pos (by omega), if_pos (by omega), if_pos (by omega), wsucc (n := L.length) (by omega) (by omega)]
    · refine Ev.bind (frame_ev x0 x1 b _ h1 h2) (Ev.bind (rframe_ev x0 x1 b _ h1 h2) ?_)
      refine Ev.congr (fun k => by rw [if_pos rfl, if_pos rfl, same_self]; rfl) (ih (i + 1) (by omega))
theorem heads_l1 (x0 x1 b : Int) (L : List Int) (hlen : L.length ≤ 100) (d : Nat) : ∀ i : Nat, i + d = L.length → Ev (fun k => kauditlaw25_LogfileFrames.l1 k b L (L.length : Int) (i : Int) x0 x1) true := by
  induction d with
  | zero =>
    intro i hi
    refine Ev.step (f := fun k => (kauditlaw25_begun.f k).bind fun t672 => (some t672)) (fun k => ?_) (Ev.bind begun_ev (Ev.now _))
    simp only [kauditlaw25_LogfileFrames.l1]
    rw [if_neg (by omega)]
  | succ d ih =>
    intro i hi
    refine Ev.step (f := fun k => (logfile_Head.f k x0 x1 (rd L (i : Int)) b).bind fun bt674 => ((kauditref25_Head.f k x0 x1 (rd L (i : Int)) b).bind fun bt679 => (if bt674.2.2 = bt679.2.2 then (if bt674.2.1 = bt679.2.1 then ((kauditref24_SameBytes.f bt674.1 bt679.1).bind fun t684 => (if t684 = true then (kauditlaw25_LogfileFrames.l1 k b L (L.length : Int) ((i + 1 : Nat) : Int) x0 x1) else (some false))) else (some false)) else (some false)))) (fun k => ?_) ?_
    · simp only [kauditlaw25_LogfileFrames.l1]
      rw [if_pos (by omega), if_pos (by omega), if_pos (by omega), wsucc (n := L.length) (by omega) (by omega)]
    · refine Ev.bind (head_ev x0 x1 _ b) (Ev.bind (rhead_ev x0 x1 _ b) ?_)
      refine Ev.congr (fun k => by rw [if_pos rfl, if_pos rfl, same_self]; rfl) (ih (i + 1) (by omega))
theorem wf16 {x : Int} (h : (Lit.int .u16 x).wf = true) : 0 ≤ x ∧ x ≤ 65535 := bounds_u16 h
theorem LogfileFrames (a0 : Open3.SKey) (a1 : Int) (l2 : List Int) (a3 a4 : Int) (_hq : Open3.QKey a0) (_w1 : (Lit.int .u64 a1).wf = true) (_hm : l2.length ≤ maxLen) (hs : l2.length * 1 ≤ 140737488351232) (hw : ∀ x ∈ l2, (Lit.int .u8 x).wf = true)
    (_w3 : (Lit.int .i64 a3).wf = true) (w4 : (Lit.int .u16 a4).wf = true) : ∃ k, kauditlaw25_LogfileFrames.f k a0.f0 a0.f1 a1 l2 a3 a4 = some true := by
  obtain ⟨g0, g1⟩ := wf16 w4
  have e4 : wrap64 a4 = a4 := w64 (by omega) (by omega)
  have et : 0 ≤ Int.tmod a4 5 ∧ Int.tmod a4 5 < 5 := by
    have := Int.tmod_nonneg 5 g0
    have h2 := Int.tmod_lt_of_pos a4 (b := 5) (by decide)
    omega
  have ew : wrap64 (16382 + Int.tmod (wrap64 a4) 5) = 16382 + Int.tmod a4 5 := by rw [e4]; exact w64 (by omega) (by omega)
  refine Ev.rounds ?_
  unfold kauditlaw25_LogfileFrames.f
  simp only [ew]
  refine Ev.congr (fun k => by rw [if_pos (by omega), if_pos (by omega)]) ?_
  simp only [Option.bind_some]
  refine frames_l0 a0.f0 a0.f1 a1 a3 a4 [l2, [], List.replicate (16382 + Int.tmod a4 5).toNat 0] ?_ (by show 3 ≤ 100; decide) true (heads_l1 _ _ _ _ (by show 4 ≤ 100; decide) 4 0 rfl) 3 0 rfl
  intro p hp
  simp only [List.mem_cons, List.not_mem_nil, or_false] at hp
  rcases hp with rfl | rfl | rfl
  · exact ⟨by omega, wf8 hw⟩
  · exact ⟨by decide, fun x hx => by cases hx⟩
  · refine ⟨by rw [List.length_replicate]; omega, fun x hx => ?_⟩
    rw [List.eq_of_mem_replicate hx]
    omega
end Go.Proofs.YtjnlmmjadlidlaaDoor.Pure3
end
section
namespace Go.Proofs.YtjnlmmjadlidlaaDoor.R3
open Go.RowKit Go.ChangeShapes
theorem own : ownKnob Tryd.prog.godebug = none := by kernel_rfl
theorem door_met03 (os : Os) (args : Array Value) : laidMetH Tryd.prog Rows.recordChecksRow.laid ((World.doorLaid Tryd.prog 400 os).forCall (fun _ _ => 0) ⟨#[], args, []⟩).memory :=
  laidMetH_of_parts3 (fuel := 8) (laidMet_of_run' 8 (by kernel_rfl) (by kernel_rfl)) (by kernel_rfl) (by kernel_rfl)
set_option maxRecDepth 100000 in
theorem elem_cells {H : Type} {enc : TypeId × Value → H} {w : World} {base : Nat} {sp : Nat → Bool} {held : Bool} {fuel : Nat} {cs : List Value} {s : List UInt8} {n : Int} {b : Bool} {p : List MemPlace}
    (h : DataW.trod enc Tryd.prog w base sp held fuel 121 cs = some (.agg [.lit (.string s), .lit (.int .i64 n), .lit (.bool b)], p)) : cs = PRec.typeCells (s, n, b) := by
  obtain ⟨y0, y1, y2, k, hx, hl, h0, h1, h2⟩ := Go.Deep.trod_struct3 Tryd.underlying121 h
  have hl3 : cs.length = 3 := hl.trans (by kernel_rfl)
  obtain ⟨c0, c1, c2, rfl⟩ : ∃ c0 c1 c2, cs = [c0, c1, c2] := by
    match cs, hl3 with
    | [a, b, c], _ => exact ⟨a, b, c, rfl⟩
  simp only [Prod.mk.injEq, DataW.agg.injEq, List.cons.injEq] at hx
  obtain ⟨⟨e0, e1, e2, _⟩, _⟩ := hx
  have k0 : Tryd.prog.cellsOf 9 = 1 := by kernel_rfl
  have k1 : Tryd.prog.cellsOf 3 = 1 := by kernel_rfl
  have k2 : Tryd.prog.cellsOf 4 = 1 := by kernel_rfl
  obtain ⟨s0, q0, r0, _⟩ := DataW.trod_string Tryd.underlying9 h0
  obtain ⟨n0, q1, r1, _⟩ := DataW.trod_int Tryd.underlying3 h1
  obtain ⟨b0, q2, r2⟩ := DataW.trod_bool Tryd.underlying4 h2
  simp [k0] at q0
  simp [k1] at q1
  simp [k2] at q2
  rw [r0] at e0
  rw [r1] at e1
  rw [r2] at e2
  simp only [DataW.lit.injEq, Lit.string.injEq, Lit.int.injEq, Lit.bool.injEq, true_and] at e0 e1 e2
  subst q0 q1 q2
  show _ = [Value.string ⟨s.toArray⟩, Value.int .i64 n, Value.bool b]
  rw [e0, e1, e2]
theorem triples : ∀ (n : Nat) (l : List Value), l.length = 3 * n → l = (List.range n).flatMap fun i => (l.drop (i * 3)).take 3
  | 0, l, h => by
    rw [List.length_eq_zero_iff.1 (by omega : l.length = 0)]
    rfl
  | n + 1, l, h => by
    have ih := triples n (l.drop 3) (by rw [List.length_drop]; omega)
    rw [List.range_succ_eq_map, List.flatMap_cons, List.flatMap_map]
    have e : ((List.range n).flatMap fun i => (l.drop ((i + 1) * 3)).take 3) = (List.range n).flatMap fun i => ((l.drop 3).drop (i * 3)).take 3 := by
      congr 1
      funext i
      rw [List.drop_drop, show 3 + i * 3 = (i + 1) * 3 by omega]
    show l = (l.drop (0 * 3)).take 3 ++ ((List.range n).flatMap fun i => (l.drop ((i + 1) * 3)).take 3)
    rw [e, ← ih]
    simp
def typDatum {H : Type} (x : List UInt8 × Int × Bool) : DataW H := .agg [.lit (.string x.1), .lit (.int .i64 x.2.1), .lit (.bool x.2.2)]
set_option maxRecDepth 100000 in
theorem arr_cells {H : Type} {enc : TypeId × Value → H} {w : World} {base : Nat} {sp : Nat → Bool} {held : Bool} {fuel : Nat} {cs : List Value} {p : List MemPlace}
    (h : DataW.trod enc Tryd.prog w base sp held fuel 122 cs = some (.agg (PRec.typesTab.map typDatum), p)) : cs = PRec.typesTab.flatMap PRec.typeCells := by
  have hce : Tryd.prog.cellsOf 121 = 3 := by kernel_rfl
  have hct : Tryd.prog.cellsOf 122 = 30 := by kernel_rfl
  cases fuel with
  | zero => simp [DataW.trod] at h
  | succ fuel =>
    simp only [DataW.trod, Tryd.underlying122, hce, hct] at h
    split at h
    · rename_i hl
      obtain ⟨xs, hm, hx⟩ := Option.map_eq_some_iff.1 h
      have hxs : xs.map (·.1) = PRec.typesTab.map (typDatum (H := H)) := by
        have := congrArg Prod.fst hx
        simpa using this
      have each : ∀ i, i < 10 → (cs.drop (i * 3)).take 3 = PRec.typeCells (PRec.typesTab.getD i ([], 0, false)) := by
        intro i hi
        obtain ⟨b, hb, hf⟩ := Lib.mapM_at hm i i (by simp [hi])
        have h2 : (xs.map (·.1))[i]? = some b.1 := by simp [hb]
        rw [hxs, List.getElem?_map] at h2
        have h3 : PRec.typesTab[i]? = some (PRec.typesTab.getD i ([], 0, false)) := by
          rw [List.getD_eq_getElem?_getD, List.getElem?_eq_getElem (show i < PRec.typesTab.length from hi)]
          rfl
        rw [h3] at h2
        have h4 : b.1 = typDatum (PRec.typesTab.getD i ([], 0, false)) := (Option.some.inj h2).symm
        exact elem_cells (p := b.2) (by rw [hf]; exact congrArg some (Prod.ext h4 rfl))
      have hlen : cs.length = 3 * 10 := by omega
      rw [triples 10 cs hlen]
      have : ∀ i ∈ List.range 10, (cs.drop (i * 3)).take 3 = PRec.typeCells (PRec.typesTab.getD i ([], 0, false)) := fun i hi => each i (List.mem_range.1 hi)
      rw [List.flatMap_def, List.map_congr_left this]
      rfl
    · cases h
set_option maxRecDepth 100000 in
theorem gl_of_laid03 {W : World} (h : laidMetH Tryd.prog Rows.recordChecksRow.laid W) : PRec.GL W := by
  rw [MakeChecks.laidMetH_plain _ _ _ (by kernel_rfl)] at h
  refine ⟨?_, ?_, ?_⟩
  · have h2 := h.tail.tail
    exact Lib.tabIs_of_head (k := .u64) (zs := Lib.pow10Tab) (g := 3) (t := 245) (e := 67) (n := 20) (by kernel_rfl) (by kernel_rfl) (by kernel_rfl) (by kernel_rfl) (by kernel_rfl) (by kernel_rfl) h2
  · have h3 := h.tail.tail.tail
    exact Lib.tabIs_of_head (k := .u8) (zs := PRec.digitsTab) (g := 2) (t := 206) (e := 5) (n := 16) (by kernel_rfl) (by kernel_rfl) (by kernel_rfl) (by kernel_rfl) (by kernel_rfl) (by kernel_rfl) h3
  · have h4 := h.tail.tail.tail.tail
    obtain ⟨ps, ⟨g', t', cs, fuel, p, q, hg', ht', hvar, hd, _, _⟩, _⟩ := h4
    have eg : Tryd.prog.globalNamed "kaudit/record.types" = some 0 := by kernel_rfl
    obtain rfl := Option.some.inj (eg.symm.trans hg')
    have et : (Tryd.prog.globals[0]?).map (·.type) = some 122 := by kernel_rfl
    obtain rfl := Option.some.inj (et.symm.trans ht')
    have hc := arr_cells (p := p) hd
    rw [hvar]
    congr 1
    apply Array.ext'
    rw [hc]
    rfl
end Go.Proofs.YtjnlmmjadlidlaaDoor.R3
end
