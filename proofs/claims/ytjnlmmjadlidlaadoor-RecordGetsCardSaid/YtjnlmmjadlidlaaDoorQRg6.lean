/-
  A part of the proof of this: RecordGets holds for every input: Get returns the first pair of a name (the card).
-/
import Derived.Test.YtjnlmmjadlidlaaDoorQRg5
section
namespace Go.Proofs.YtjnlmmjadlidlaaDoor.PRec
open Go.RowKit Go.Proofs.YtjnlmmjadlidlaaDoorW.PrintWords Go.Proofs.YtjnlmmjadlidlaaDoorW.PrintLast Go.Proofs.YtjnlmmjadlidlaaDoorW.PrintMore
attribute [local go_sem] max2_int min2_int max_two min_two max_three min_three max_four min_four
set_option linter.unusedVariables false
set_option linter.unusedSimpArgs false
attribute [local go_sem high] eqA34
def kauditlaw03_RecordGets.l0 : Nat → List ByteArray → Int → Int → Int → Int → List (S34) → Int → Int → Int → List (S34) → Option (Bool)
  | 0, _, _, _, _, _, _, _, _, _, _ => none
  | k + 1, x9, x10, x288000, x288001, x288002, x288003, x301000, x301001, x301002, x301003 => if x10 < (x9.length : Int) then (if 0 ≤ x10 then ((record_Get.f k x288000 x288001 x288002 x288003 (rdOf ByteArray.empty x9 x10)).bind fun bt306 => ((kauditref03_Get.f k x288000 x288001 x288002 x288003 (rdOf ByteArray.empty x9 x10)).bind fun bt313 => ((record_Get.f k x301000 x301001 x301002 x301003 (rdOf ByteArray.empty x9 x10)).bind fun bt320 => ((kauditref03_Get.f k x301000 x301001 x301002 x301003 (rdOf ByteArray.empty x9 x10)).bind fun bt327 => (if (bt306.2.2.2.2 != bt313.2.2.2.2) = true then (some false) else (if (!(bt306.1.toList == bt313.1.toList) || (!(bt306.2.1 == bt313.2.1) || (!(bt306.2.2.1 == bt313.2.2.1) || (!(bt306.2.2.2.1.toList == bt313.2.2.2.1.toList))))) = true then (some false) else (if (bt320.2.2.2.2 != bt327.2.2.2.2) = true then (some false) else (if (!(bt320.1.toList == bt327.1.toList) || (!(bt320.2.1 == bt327.2.1) || (!(bt320.2.2.1 == bt327.2.2.1) || (!(bt320.2.2.2.1.toList == bt327.2.2.2.1.toList))))) = true then (some false) else (kauditlaw03_RecordGets.l0 k x9 (wrap64 (x10 + 1)) x288000 x288001 x288002 x288003 x301000 x301001 x301002 x301003))))))))) else (none)) else ((kauditlaw03_awake.f k).bind fun t304 => (some t304))
def kauditlaw03_RecordGets.f (k : Nat) (a0_0 : Int) (a0_1 : Int) (a0_2 : Int) (l0_3 : List (S34)) (a1 : ByteArray) (l2 : List Int) : Option (Bool) := (kauditlaw03_light.f k a0_0 a0_1 a0_2 l0_3).bind fun t288 => (if t288 = true then ((kauditmake_New.f l2).bind fun bt290 => ((kauditmake_Src_Record.f k bt290.1 bt290.2).bind fun bt293 => (kauditlaw03_RecordGets.l0 k (([a1, (⟨#[97]⟩ : ByteArray), (⟨#[117, 105, 100]⟩ : ByteArray), (⟨#[120, 95, 49]⟩ : ByteArray)] : List ByteArray)) 0 a0_0 a0_1 a0_2 l0_3 bt293.1 bt293.2.1 bt293.2.2.1 bt293.2.2.2.1))) else ((kauditlaw03_awake.f k).bind fun t289 => (some t289)))
theorem kauditlaw03_RecordGets.mono_l : ∀ k, (∀ y0 y1 y2 y3 y4 y5 y6 y7 y8 y9, LeO (kauditlaw03_RecordGets.l0 k y0 y1 y2 y3 y4 y5 y6 y7 y8 y9) (kauditlaw03_RecordGets.l0 (k + 1) y0 y1 y2 y3 y4 y5 y6 y7 y8 y9))
  | 0 => fun _ _ _ _ _ _ _ _ _ _ r h => by simp [kauditlaw03_RecordGets.l0] at h
  | k + 1 => by
    have ih0 := kauditlaw03_RecordGets.mono_l k
    · intro y0 y1 y2 y3 y4 y5 y6 y7 y8 y9
      unfold kauditlaw03_RecordGets.l0
      repeat' first
      | (with_reducible exact ih0 _ _ _ _ _ _ _ _ _ _)
      | (with_reducible exact kauditlaw03_awake.mono _)
      | (with_reducible exact kauditlaw03_light.mono _ _ _ _ _)
      | (with_reducible exact kauditmake_Src_Record.mono _ _ _)
      | (with_reducible exact kauditref03_Get.mono _ _ _ _ _ _)
      | (with_reducible exact record_Get.mono _ _ _ _ _ _)
      | (with_reducible exact LeO.refl _)
      | (with_reducible exact LeO.none _)
      | (with_reducible refine LeO.ite ?_ ?_)
      | (with_reducible refine LeO.bind ?_ (fun _ => ?_))
      | exact ih0 _ _ _ _ _ _ _ _ _ _
      | exact kauditlaw03_awake.mono _
      | exact kauditlaw03_light.mono _ _ _ _ _
      | exact kauditmake_Src_Record.mono _ _ _
      | exact kauditref03_Get.mono _ _ _ _ _ _
      | exact record_Get.mono _ _ _ _ _ _
      | exact LeO.none _
      | refine LeO.ite ?_ ?_
      | refine LeO.bind ?_ (fun _ => ?_)
theorem kauditlaw03_RecordGets.mono : ∀ a0 a1 a2 a3 a4 a5 k, LeO (kauditlaw03_RecordGets.f k a0 a1 a2 a3 a4 a5) (kauditlaw03_RecordGets.f (k + 1) a0 a1 a2 a3 a4 a5) := by
  intro a0 a1 a2 a3 a4 a5 k
  have ih0 := kauditlaw03_RecordGets.mono_l k
  unfold kauditlaw03_RecordGets.f
  repeat' first
      | (with_reducible exact ih0 _ _ _ _ _ _ _ _ _ _)
      | (with_reducible exact kauditlaw03_awake.mono _)
      | (with_reducible exact kauditlaw03_light.mono _ _ _ _ _)
      | (with_reducible exact kauditmake_Src_Record.mono _ _ _)
      | (with_reducible exact kauditref03_Get.mono _ _ _ _ _ _)
      | (with_reducible exact record_Get.mono _ _ _ _ _ _)
      | (with_reducible exact LeO.refl _)
      | (with_reducible exact LeO.none _)
      | (with_reducible refine LeO.ite ?_ ?_)
      | (with_reducible refine LeO.bind ?_ (fun _ => ?_))
      | exact ih0 _ _ _ _ _ _ _ _ _ _
      | exact kauditlaw03_awake.mono _
      | exact kauditlaw03_light.mono _ _ _ _ _
      | exact kauditmake_Src_Record.mono _ _ _
      | exact kauditref03_Get.mono _ _ _ _ _ _
      | exact record_Get.mono _ _ _ _ _ _
      | exact LeO.none _
      | refine LeO.ite ?_ ?_
      | refine LeO.bind ?_ (fun _ => ?_)
def kauditlaw03_RecordGets.T9 : Bool × List (List Nat × List Nat) := (true, [([], []), ([], []), ([], []), ([1, 2], [1, 2]), ([3], [3]), ([0, 4], [0, 4]), ([5], [5]), ([6], [6]), ([6], [6]), ([], []), ([9, 7, 5, 0, 1, 2, 3, 4, 5, 6, 7, 9], [7, 9]), ([8, 10, 0, 1, 2, 3, 4, 5, 6, 7, 8, 9, 10], [8])])
def kauditlaw03_RecordGets.B9 : List Nat := [0, 0, 0, 6, 14, 31, 63, 127, 127, 0, 767, 2047]
theorem kauditlaw03_RecordGets.tab9 : rtab .any (opsOf Tryd.f8 9) = kauditlaw03_RecordGets.T9 := by kernel_rfl
theorem kauditlaw03_RecordGets.bits9 : waitsOk kauditlaw03_RecordGets.T9.2 kauditlaw03_RecordGets.B9 = true := by kernel_rfl
def kauditlaw03_RecordGets.T10 : Bool × List (List Nat × List Nat) := (true, [([], []), ([], []), ([], []), ([1, 2], [1, 2]), ([3], [3]), ([0, 4], [0, 4]), ([5], [5]), ([6], [6]), ([6], [6]), ([], []), ([9, 7, 5, 0, 1, 2, 3, 4, 5, 6, 7, 9], [7, 9]), ([8, 10, 0, 1, 2, 3, 4, 5, 6, 7, 8, 9, 10], [8])])
def kauditlaw03_RecordGets.B10 : List Nat := [0, 0, 0, 6, 14, 31, 63, 127, 127, 0, 767, 2047]
theorem kauditlaw03_RecordGets.tab10 : rtab .any (opsOf Tryd.f8 10) = kauditlaw03_RecordGets.T10 := by kernel_rfl
theorem kauditlaw03_RecordGets.bits10 : waitsOk kauditlaw03_RecordGets.T10.2 kauditlaw03_RecordGets.B10 = true := by kernel_rfl
def kauditlaw03_RecordGets.T11 : Bool × List (List Nat × List Nat) := (true, [([], []), ([], []), ([], []), ([1, 2], [1, 2]), ([3], [3]), ([0, 4], [0, 4]), ([5], [5]), ([6], [6]), ([6], [6]), ([], []), ([9, 7, 5, 0, 1, 2, 3, 4, 5, 6, 7, 9], [7, 9]), ([8, 10, 0, 1, 2, 3, 4, 5, 6, 7, 8, 9, 10], [8])])
def kauditlaw03_RecordGets.B11 : List Nat := [0, 0, 0, 6, 14, 31, 63, 127, 127, 0, 767, 2047]
theorem kauditlaw03_RecordGets.tab11 : rtab .any (opsOf Tryd.f8 11) = kauditlaw03_RecordGets.T11 := by kernel_rfl
theorem kauditlaw03_RecordGets.bits11 : waitsOk kauditlaw03_RecordGets.T11.2 kauditlaw03_RecordGets.B11 = true := by kernel_rfl
def kauditlaw03_RecordGets.T12 : Bool × List (List Nat × List Nat) := (true, [([], []), ([], []), ([], []), ([1, 2], [1, 2]), ([3], [3]), ([0, 4], [0, 4]), ([5], [5]), ([6], [6]), ([6], [6]), ([], []), ([9, 7, 5, 0, 1, 2, 3, 4, 5, 6, 7, 9], [7, 9]), ([8, 10, 0, 1, 2, 3, 4, 5, 6, 7, 8, 9, 10], [8])])
def kauditlaw03_RecordGets.B12 : List Nat := [0, 0, 0, 6, 14, 31, 63, 127, 127, 0, 767, 2047]
theorem kauditlaw03_RecordGets.tab12 : rtab .any (opsOf Tryd.f8 12) = kauditlaw03_RecordGets.T12 := by kernel_rfl
theorem kauditlaw03_RecordGets.bits12 : waitsOk kauditlaw03_RecordGets.T12.2 kauditlaw03_RecordGets.B12 = true := by kernel_rfl
set_option maxHeartbeats 8000000 in
set_option maxRecDepth 100000 in
theorem kauditlaw03_RecordGets.calls (k : Nat) (a0_0 : Int) (a0_1 : Int) (a0_2 : Int) (A0_3 : Option Addr) (c0_3 : Nat) (l0_3 : List (S34)) (a1 : ByteArray) (A2 : Option Addr) (c2 : Nat) (l2 : List Int) (r : Bool) (w : World) (hr0_3 : Kd.C k34 w A0_3 l0_3.length l0_3) (hc0_3 : l0_3.length ≤ c0_3) (hr2 : Kd.C (Kd.int .i64) w A2 l2.length l2) (hc2 : l2.length ≤ c2) (hG : GL w) (h : kauditlaw03_RecordGets.f k a0_0 a0_1 a0_2 l0_3 a1 l2 = some r) :
    Calls Tryd.prog 8 #[.agg #[.int .i64 a0_0, .int .i64 a0_1, .int .i64 a0_2, .slice A0_3 l0_3.length c0_3], .string a1, .slice A2 l2.length c2] w fun e w' => e = .returned (.bool r) ∧ Below w.heap.size w w' := by
  have hu50 := Tryd.underlying50; have hu34 := Tryd.underlying34; have HR0_3 := Aside0.mk hr0_3; have HC0_3 := Aside0.mk hc0_3; clear hr0_3 hc0_3; have HR2 := Aside0.mk hr2; have HC2 := Aside0.mk hc2; clear hr2 hc2
  have HB := Aside0.mk (Below.refl w.heap.size w)
  have HGL := Aside0.mk hG; clear hG
  have H : ((kauditlaw03_light.f k a0_0 a0_1 a0_2 l0_3).bind fun t288 => (if t288 = true then ((kauditmake_New.f l2).bind fun bt290 => ((kauditmake_Src_Record.f k bt290.1 bt290.2).bind fun bt293 => (kauditlaw03_RecordGets.l0 k (([a1, (⟨#[97]⟩ : ByteArray), (⟨#[117, 105, 100]⟩ : ByteArray), (⟨#[120, 95, 49]⟩ : ByteArray)] : List ByteArray)) 0 a0_0 a0_1 a0_2 l0_3 bt293.1 bt293.2.1 bt293.2.2.1 bt293.2.2.2.1))) else ((kauditlaw03_awake.f k).bind fun t289 => (some t289)))) = some r := h
  clear h
  replace H := Option.bind_eq_some_iff.mp H
  obtain ⟨t288, A40, H⟩ := H
  replace H : (if t288 = true then ((kauditmake_New.f l2).bind fun bt290 => ((kauditmake_Src_Record.f k bt290.1 bt290.2).bind fun bt293 => (kauditlaw03_RecordGets.l0 k (([a1, (⟨#[97]⟩ : ByteArray), (⟨#[117, 105, 100]⟩ : ByteArray), (⟨#[120, 95, 49]⟩ : ByteArray)] : List ByteArray)) 0 a0_0 a0_1 a0_2 l0_3 bt293.1 bt293.2.1 bt293.2.2.1 bt293.2.2.2.1))) else ((kauditlaw03_awake.f k).bind fun t289 => (some t289))) = some r := H
  have A4 := Aside0.mk A40; clear A40
  by_cases c5 : t288 = true
  · subst c5
    have H1 : ((kauditmake_New.f l2).bind fun bt290 => ((kauditmake_Src_Record.f k bt290.1 bt290.2).bind fun bt293 => (kauditlaw03_RecordGets.l0 k (([a1, (⟨#[97]⟩ : ByteArray), (⟨#[117, 105, 100]⟩ : ByteArray), (⟨#[120, 95, 49]⟩ : ByteArray)] : List ByteArray)) 0 a0_0 a0_1 a0_2 l0_3 bt293.1 bt293.2.1 bt293.2.2.1 bt293.2.2.2.1))) = some r := by rw [if_pos rfl] at H; exact H
    clear H; have H := H1; clear H1
    replace H := Option.bind_eq_some_iff.mp H
    obtain ⟨⟨t290, t291⟩, A60, H⟩ := H
    replace H : ((kauditmake_Src_Record.f k t290 t291).bind fun bt293 => (kauditlaw03_RecordGets.l0 k (([a1, (⟨#[97]⟩ : ByteArray), (⟨#[117, 105, 100]⟩ : ByteArray), (⟨#[120, 95, 49]⟩ : ByteArray)] : List ByteArray)) 0 a0_0 a0_1 a0_2 l0_3 bt293.1 bt293.2.1 bt293.2.2.1 bt293.2.2.2.1)) = some r := H
    have A6 := Aside0.mk A60; clear A60
    replace H := Option.bind_eq_some_iff.mp H
    obtain ⟨⟨t293, t294, t295, t296, t299⟩, A70, H⟩ := H
    replace H : (kauditlaw03_RecordGets.l0 k (([a1, (⟨#[97]⟩ : ByteArray), (⟨#[117, 105, 100]⟩ : ByteArray), (⟨#[120, 95, 49]⟩ : ByteArray)] : List ByteArray)) 0 a0_0 a0_1 a0_2 l0_3 t293 t294 t295 t296) = some r := H
    have A7 := Aside0.mk A70; clear A70
    obtain ⟨y301, hy301⟩ : ∃ y_ : List ByteArray, y_ = (([a1, (⟨#[97]⟩ : ByteArray), (⟨#[117, 105, 100]⟩ : ByteArray), (⟨#[120, 95, 49]⟩ : ByteArray)] : List ByteArray)) := ⟨_, rfl⟩
    replace H : (kauditlaw03_RecordGets.l0 k y301 0 a0_0 a0_1 a0_2 l0_3 t293 t294 t295 t296) = some r := by first | (rw [hy301]; with_reducible exact H) | (have H2_ := (Option.bind_some _ _).symm.trans H; rw [hy301]; with_reducible exact H2_) | (have H2_ := (Option.bind_some _ _).symm.trans H; with_reducible exact H2_) | with_reducible exact H | (rw [hy301]; exact H) | exact H
    have Ny301 := Aside0.mk hy301; clear hy301
    have H' := Aside0.mk H
    clear H
    go_enter Tryd.func8, Tryd.ntmps8
    go_wp2_with (first | ((with_reducible refine gate_dst (N := 3) rfl ?_); refine box_event ?hg (N := 3) ?hd (cs := #[.int .i64 a0_0, .int .i64 a0_1, .int .i64 a0_2, .slice A0_3 l0_3.length c0_3]) (t := 50) ?hr ?_; (case hd => rfl); (case hg => rfl); (case hr => first | (go_simp; done) | (go_simp; rfl)); intro gb287 hg w8 hbox hb; have n0_ := Aside0.mk (below_step (by repeat (first | (with_reducible first | exact HB.out | apply below_alloc | apply pw_below_drewN | apply below_drew1) | exact HB.out)) hb); have n1_ := Aside0.mk (hbox); have n2_ := Aside0.mk ((by rw [hg]; exact (below_size (by repeat (first | (with_reducible first | exact HB.out | apply below_alloc | apply pw_below_drewN | apply below_drew1) | exact HB.out))) : w.heap.size ≤ gb287)); have n3_ := Aside0.mk ((by rw [hg]; exact (below_size (by repeat (first | (with_reducible first | exact HB.out | apply below_alloc | apply pw_below_drewN | apply below_drew1) | exact HB.out))) : w.heap.size ≤ gb287)); clear HB; have HB := n0_; have BK287 := n1_; have GW287 := n2_; have GE287 := n3_; clear n0_ n1_ n2_ n3_; clear hb hbox hg; have hcz9_0 : w8.cell? ⟨gb287, 0, none⟩ = some (.int .i64 a0_0) := (blk_cell BK287.out 0).trans rfl; have hcz9_1 : w8.cell? ⟨gb287, 1, none⟩ = some (.int .i64 a0_1) := (blk_cell BK287.out 1).trans rfl; have hcz9_2 : w8.cell? ⟨gb287, 2, none⟩ = some (.int .i64 a0_2) := (blk_cell BK287.out 2).trans rfl; have hcz9_3 : w8.cell? ⟨gb287, 3, none⟩ = some (.slice A0_3 l0_3.length c0_3) := (blk_cell BK287.out 3).trans rfl; have hfz9_0 := blk_frozen BK287.out 0; have hfz9_1 := blk_frozen BK287.out 1; have hfz9_2 := blk_frozen BK287.out 2; have hfz9_3 := blk_frozen BK287.out 3) | ((with_reducible refine gate_callee (f := 29) rfl ?_); refine goesL_ (some 20) rfl rfl Tryd.func29 (by kernel_rfl) rfl #[.agg #[.int .i64 a0_0, .int .i64 a0_1, .int .i64 a0_2, .slice A0_3 l0_3.length c0_3]] rfl (by (try simp only [List.map_toArray, List.map_cons, List.map_nil]); first | done | rfl | (simp only [List.length_drop, List.length_take]; rfl)) ?_; (with_reducible refine (kauditlaw03_light.calls k a0_0 a0_1 a0_2 _ _ l0_3 true _ ?side1 ?side2 A4.out).mono ?_); (case side1 => repeat (first | exact (Kd.C_below HR0_3.out HB.out) | (with_reducible refine Kd.C_alloc ?_ _) | (with_reducible refine Kd.C_drewN ?_ _) | (with_reducible refine Kd.C_drew ?_))); (case side2 => exact HC0_3.out); rintro e w10 ⟨rfl, hb⟩; refine ⟨_, rfl, ?_⟩; have n0_ := Aside0.mk (blk_below (g := gb287) (o := .cells #[.int .i64 a0_0, .int .i64 a0_1, .int .i64 a0_2, .slice A0_3 l0_3.length c0_3] 50 (0, 0)) (by (with_reducible repeat (first | refine blk_drewN ?_ _ | refine blk_drew ?_ | refine blk_alloc ?_ _)); exact BK287.out) hb); have n1_ := Aside0.mk (below_step (by repeat (first | (with_reducible first | exact HB.out | apply below_alloc | apply pw_below_drewN | apply below_drew1 | refine below_set ?_ GE287.out) | exact HB.out)) hb); clear BK287; clear HB; have BK287 := n0_; have HB := n1_; clear n0_ n1_; (try clear hb); (try clear hb2); (try clear hk); (try clear hi)) | ((with_reducible refine gate_callee (f := 32) rfl ?_); refine goesL_ (some 24) rfl rfl Tryd.func32 (by kernel_rfl) rfl #[.slice A2 l2.length c2] rfl (by (try simp only [List.map_toArray, List.map_cons, List.map_nil]); first | done | rfl | (simp only [List.length_drop, List.length_take]; rfl)) ?_; (with_reducible refine (kauditmake_New.calls _ _ l2 t290 t291 w _ ?side1 ?side2 ?side3 A6.out).mono ?_); (case side1 => repeat (first | (with_reducible first | exact HB.out | apply below_alloc | apply pw_below_drewN | apply below_drew1 | refine below_set ?_ GE287.out) | exact HB.out)); (case side2 => exact HR2.out); (case side3 => exact HC2.out); rintro e w11 ⟨g292, rfl, hi, hb, hb2⟩; refine ⟨_, rfl, ?_⟩; have n0_ := Aside0.mk (blk_below (g := gb287) (o := .cells #[.int .i64 a0_0, .int .i64 a0_1, .int .i64 a0_2, .slice A0_3 l0_3.length c0_3] 50 (0, 0)) (by (with_reducible repeat (first | refine blk_drewN ?_ _ | refine blk_drew ?_ | refine blk_alloc ?_ _)); exact BK287.out) hb2); have n1_ := Aside0.mk (hb); have n2_ := Aside0.mk (hi); have n3_ := Aside0.mk (IsS107.ne_blk hi (blk_below (g := gb287) (o := .cells #[.int .i64 a0_0, .int .i64 a0_1, .int .i64 a0_2, .slice A0_3 l0_3.length c0_3] 50 (0, 0)) (by (with_reducible repeat (first | refine blk_drewN ?_ _ | refine blk_drew ?_ | refine blk_alloc ?_ _)); exact BK287.out) hb2) (by decide)); have n4_ := Aside0.mk (Ne.symm (IsS107.ne_blk hi (blk_below (g := gb287) (o := .cells #[.int .i64 a0_0, .int .i64 a0_1, .int .i64 a0_2, .slice A0_3 l0_3.length c0_3] 50 (0, 0)) (by (with_reducible repeat (first | refine blk_drewN ?_ _ | refine blk_drew ?_ | refine blk_alloc ?_ _)); exact BK287.out) hb2) (by decide))); clear BK287; clear HB; have BK287 := n0_; have HB := n1_; have HI292 := n2_; have NB292_287 := n3_; have NB287_292 := n4_; clear n0_ n1_ n2_ n3_ n4_; (try clear hb); (try clear hb2); (try clear hk); (try clear hi)) | ((with_reducible refine gate_callee (f := 33) rfl ?_); refine goesL_ (some 26) rfl rfl Tryd.func33 (by kernel_rfl) rfl #[.pointer (some ⟨g292, 0, none⟩)] rfl (by (try simp only [List.map_toArray, List.map_cons, List.map_nil]); first | done | rfl | (simp only [List.length_drop, List.length_take]; rfl)) ?_; (with_reducible refine (kauditmake_Src_Record.calls k g292 t290 t291 t293 t294 t295 t296 t299 w _ ?side1 ?side2 A7.out).mono ?_); (case side1 => repeat (first | (with_reducible first | exact HI292.out | apply IsS107.alloc | apply IsS107.drewN | apply IsS107.drew | apply IsS107.set_1 | refine IsS107.far ?_ NB292_287.out _) | exact HI292.out)); (case side2 => repeat (first | (with_reducible first | exact HB.out | apply below_alloc | apply pw_below_drewN | apply below_drew1 | refine below_set ?_ (IsS107.ge HI292.out) | refine below_set ?_ GE287.out) | exact HB.out)); rintro e w12 ⟨v297, rfl, ho0, hi, hb, hk⟩; refine ⟨_, rfl, ?_⟩; have n0_ := Aside0.mk (KeepBut.blk hk (g' := gb287) (o := .cells #[.int .i64 a0_0, .int .i64 a0_1, .int .i64 a0_2, .slice A0_3 l0_3.length c0_3] 50 (0, 0)) (by (with_reducible repeat (first | refine blk_drewN ?_ _ | refine blk_drew ?_ | refine blk_alloc ?_ _)); exact BK287.out) NB287_292.out (by simp)); have n1_ := Aside0.mk (Kd.R_lower ho0 (below_size (by repeat (first | (with_reducible first | exact HB.out | apply below_alloc | apply pw_below_drewN | apply below_drew1 | refine below_set ?_ (IsS107.ge HI292.out) | refine below_set ?_ GE287.out) | exact HB.out)))); have n2_ := Aside0.mk (hb); have n3_ := Aside0.mk (hi); clear BK287; clear HB; clear HI292; have BK287 := n0_; have HO298 := n1_; have HB := n2_; have HI292 := n3_; clear n0_ n1_ n2_ n3_; (try clear hb); (try clear hb2); (try clear hk); (try clear hi); (try clear ho0)) | ((with_reducible refine gate_dst (N := 8) rfl ?_); refine box_event ?hg (N := 8) ?hd (cs := #[.int .i64 0, .int .i64 0, .int .i64 0, .slice none 0 0]) (t := 50) ?hr ?_; (case hd => rfl); (case hg => rfl); (case hr => first | (go_simp; done) | (go_simp; rfl)); intro gb300 hg w13 hbox hb; have n0_ := Aside0.mk (Kd.R_below (by (with_reducible repeat (first | apply Kd.R_alloc | apply Kd.R_drewN | apply Kd.R_drew)); exact HO298.out) hb); have n1_ := Aside0.mk (blk_below (g := gb287) (o := .cells #[.int .i64 a0_0, .int .i64 a0_1, .int .i64 a0_2, .slice A0_3 l0_3.length c0_3] 50 (0, 0)) (by (with_reducible repeat (first | refine blk_drewN ?_ _ | refine blk_drew ?_ | refine blk_alloc ?_ _)); exact BK287.out) hb); have n2_ := Aside0.mk (IsS107.below (by repeat (first | (with_reducible first | exact HI292.out | apply IsS107.alloc | apply IsS107.drewN | apply IsS107.drew | apply IsS107.set_1 | refine IsS107.far ?_ NB292_287.out _) | exact HI292.out)) hb); have n3_ := Aside0.mk (below_step (by repeat (first | (with_reducible first | exact HB.out | apply below_alloc | apply pw_below_drewN | apply below_drew1 | refine below_set ?_ (IsS107.ge HI292.out) | refine below_set ?_ GE287.out) | exact HB.out)) hb); have n4_ := Aside0.mk (hbox); have n5_ := Aside0.mk ((by rw [hg]; exact (below_size (by repeat (first | (with_reducible first | exact HB.out | apply below_alloc | apply pw_below_drewN | apply below_drew1 | refine below_set ?_ (IsS107.ge HI292.out) | refine below_set ?_ GE287.out) | exact HB.out))) : w.heap.size ≤ gb300)); have n6_ := Aside0.mk ((by rw [hg]; exact (below_size (by repeat (first | (with_reducible first | exact HB.out | apply below_alloc | apply pw_below_drewN | apply below_drew1 | refine below_set ?_ (IsS107.ge HI292.out) | refine below_set ?_ GE287.out) | exact HB.out))) : w.heap.size ≤ gb300)); have n7_ := Aside0.mk ((by rw [hg]; exact Nat.ne_of_lt (blk_lt (g := gb287) (o := .cells #[.int .i64 a0_0, .int .i64 a0_1, .int .i64 a0_2, .slice A0_3 l0_3.length c0_3] 50 (0, 0)) (by (with_reducible repeat (first | refine blk_drewN ?_ _ | refine blk_drew ?_ | refine blk_alloc ?_ _)); exact BK287.out)) : gb287 ≠ gb300)); have n8_ := Aside0.mk ((by rw [hg]; exact Nat.ne_of_gt (blk_lt (g := gb287) (o := .cells #[.int .i64 a0_0, .int .i64 a0_1, .int .i64 a0_2, .slice A0_3 l0_3.length c0_3] 50 (0, 0)) (by (with_reducible repeat (first | refine blk_drewN ?_ _ | refine blk_drew ?_ | refine blk_alloc ?_ _)); exact BK287.out)) : gb300 ≠ gb287)); have n9_ := Aside0.mk ((by rw [hg]; exact Nat.ne_of_lt (IsS107.lt (show IsS107 w _ g292 t290 t299 from by repeat (first | (with_reducible first | exact HI292.out | apply IsS107.alloc | apply IsS107.drewN | apply IsS107.drew | apply IsS107.set_1 | refine IsS107.far ?_ NB292_287.out _) | exact HI292.out))) : g292 ≠ gb300)); have n10_ := Aside0.mk ((by rw [hg]; exact Nat.ne_of_gt (IsS107.lt (show IsS107 w _ g292 t290 t299 from by repeat (first | (with_reducible first | exact HI292.out | apply IsS107.alloc | apply IsS107.drewN | apply IsS107.drew | apply IsS107.set_1 | refine IsS107.far ?_ NB292_287.out _) | exact HI292.out))) : gb300 ≠ g292)); clear HO298; clear BK287; clear HI292; clear HB; have HO298 := n0_; have BK287 := n1_; have HI292 := n2_; have HB := n3_; have BK300 := n4_; have GW300 := n5_; have GE300 := n6_; have NB287_300 := n7_; have NB300_287 := n8_; have NB292_300 := n9_; have NB300_292 := n10_; clear n0_ n1_ n2_ n3_ n4_ n5_ n6_ n7_ n8_ n9_ n10_; clear hb hbox hg; have hnb14 := NB300_287.out; have hnc14 := NB287_300.out; have hnb15 := NB300_292.out; have hnc15 := NB292_300.out; have hcz16_0 : w13.cell? ⟨gb300, 0, none⟩ = some (.int .i64 0) := (blk_cell BK300.out 0).trans rfl; have hcz16_1 : w13.cell? ⟨gb300, 1, none⟩ = some (.int .i64 0) := (blk_cell BK300.out 1).trans rfl; have hcz16_2 : w13.cell? ⟨gb300, 2, none⟩ = some (.int .i64 0) := (blk_cell BK300.out 2).trans rfl; have hcz16_3 : w13.cell? ⟨gb300, 3, none⟩ = some (.slice none 0 0) := (blk_cell BK300.out 3).trans rfl; have hfz16_0 := blk_frozen BK300.out 0; have hfz16_1 := blk_frozen BK300.out 1; have hfz16_2 := blk_frozen BK300.out 2; have hfz16_3 := blk_frozen BK300.out 3; obtain ⟨Ao17, co17, eo17⟩ := Kd.R_slice HO298.out; subst eo17) | ((with_reducible refine gate_dst (N := 28) rfl ?_); refine Kd.R_lit Kd.string _ 9 ?hg (N := 28) ?hd (xs := ([a1, (⟨#[97]⟩ : ByteArray), (⟨#[117, 105, 100]⟩ : ByteArray), (⟨#[120, 95, 49]⟩ : ByteArray)] : List ByteArray)) (inner := [.string a1, .string (⟨#[97]⟩ : ByteArray), .string (⟨#[117, 105, 100]⟩ : ByteArray), .string (⟨#[120, 95, 49]⟩ : ByteArray)]) (ok := fun _ => True) (okp := fun _ => True) ?hr ?hp (fun _ hk => hk) trivial (Below.refl _ _) (Nat.le_refl _) (by simp) ?_; (case hd => rfl); (case hg => rfl); (case hr => first | (go_simp; done) | (go_simp; rfl)); (case hp => exact (Reps.one (show Kd.M Kd.string _ _ _ a1 [.string a1] from rfl) (Reps.one (show Kd.M Kd.string _ _ _ (⟨#[97]⟩ : ByteArray) [.string (⟨#[97]⟩ : ByteArray)] from rfl) (Reps.one (show Kd.M Kd.string _ _ _ (⟨#[117, 105, 100]⟩ : ByteArray) [.string (⟨#[117, 105, 100]⟩ : ByteArray)] from rfl) (Reps.one (show Kd.M Kd.string _ _ _ (⟨#[120, 95, 49]⟩ : ByteArray) [.string (⟨#[120, 95, 49]⟩ : ByteArray)] from rfl) (Reps.none _ _)))))); intro v302 w18 ho19 hb hg_ hnew_; clear hg_ hnew_; (first | rw [← Ny301.out] at ho19 | (simp only [Int.reduceToNat] at ho19; rw [← Ny301.out] at ho19)); have n0_ := Aside0.mk (Kd.R_below (by (with_reducible repeat (first | apply Kd.R_alloc | apply Kd.R_drewN | apply Kd.R_drew)); exact (Kd.R_mono (Kd.R_far (p := ⟨gb300, 3, none⟩) (Kd.R_far (p := ⟨gb300, 2, none⟩) (Kd.R_far (p := ⟨gb300, 1, none⟩) (Kd.R_far (p := ⟨gb300, 0, none⟩) (Kd.R_types HO298.out BK300.out (by decide)) (fun _ hk => hk.2) (.int .i64 t293)) (fun _ hk => hk.2) (.int .i64 t294)) (fun _ hk => hk.2) (.int .i64 t295)) (fun _ hk => hk.2) (.slice Ao17 t296.length co17)) (fun _ h_ => h_.1))) hb); have n1_ := Aside0.mk (Kd.R_lower ho19 (below_size (by repeat (first | (with_reducible first | exact HB.out | apply below_alloc | apply pw_below_drewN | apply below_drew1 | refine below_set ?_ (IsS107.ge HI292.out) | refine below_set ?_ GE287.out | refine below_set ?_ GE300.out) | exact HB.out)))); have n2_ := Aside0.mk (blk_below (g := gb287) (o := .cells #[.int .i64 a0_0, .int .i64 a0_1, .int .i64 a0_2, .slice A0_3 l0_3.length c0_3] 50 (0, 0)) (by (with_reducible repeat (first | refine blk_drewN ?_ _ | refine blk_drew ?_ | refine blk_alloc ?_ _)); refine blk_far ?_ NB287_300.out _; (with_reducible repeat (first | refine blk_drewN ?_ _ | refine blk_drew ?_ | refine blk_alloc ?_ _)); refine blk_far ?_ NB287_300.out _; (with_reducible repeat (first | refine blk_drewN ?_ _ | refine blk_drew ?_ | refine blk_alloc ?_ _)); refine blk_far ?_ NB287_300.out _; (with_reducible repeat (first | refine blk_drewN ?_ _ | refine blk_drew ?_ | refine blk_alloc ?_ _)); refine blk_far ?_ NB287_300.out _; (with_reducible repeat (first | refine blk_drewN ?_ _ | refine blk_drew ?_ | refine blk_alloc ?_ _)); exact BK287.out) hb); have n3_ := Aside0.mk (IsS107.below (show IsS107 w ((((w13.setCell ⟨gb300, 0, none⟩ (.int .i64 t293)).setCell ⟨gb300, 1, none⟩ (.int .i64 t294)).setCell ⟨gb300, 2, none⟩ (.int .i64 t295)).setCell ⟨gb300, 3, none⟩ (.slice Ao17 t296.length co17)) g292 t290 t299 from by repeat (first | (with_reducible first | exact HI292.out | apply IsS107.alloc | apply IsS107.drewN | apply IsS107.drew | apply IsS107.set_1 | refine IsS107.far ?_ NB292_287.out _ | refine IsS107.far ?_ NB292_300.out _) | exact HI292.out)) hb); have n4_ := Aside0.mk (blk_below (g := gb300) (o := .cells #[.int .i64 t293, .int .i64 t294, .int .i64 t295, .slice Ao17 t296.length co17] 50 (0, 0)) (by (with_reducible repeat (first | refine blk_drewN ?_ _ | refine blk_drew ?_ | refine blk_alloc ?_ _)); refine blk_put (cs := #[.int .i64 t293, .int .i64 t294, .int .i64 t295, .slice none 0 0]) ?_ 3 _ rfl; (with_reducible repeat (first | refine blk_drewN ?_ _ | refine blk_drew ?_ | refine blk_alloc ?_ _)); refine blk_put (cs := #[.int .i64 t293, .int .i64 t294, .int .i64 0, .slice none 0 0]) ?_ 2 _ rfl; (with_reducible repeat (first | refine blk_drewN ?_ _ | refine blk_drew ?_ | refine blk_alloc ?_ _)); refine blk_put (cs := #[.int .i64 t293, .int .i64 0, .int .i64 0, .slice none 0 0]) ?_ 1 _ rfl; (with_reducible repeat (first | refine blk_drewN ?_ _ | refine blk_drew ?_ | refine blk_alloc ?_ _)); refine blk_put (cs := #[.int .i64 0, .int .i64 0, .int .i64 0, .slice none 0 0]) ?_ 0 _ rfl; (with_reducible repeat (first | refine blk_drewN ?_ _ | refine blk_drew ?_ | refine blk_alloc ?_ _)); exact BK300.out) hb); have n5_ := Aside0.mk (below_step (by repeat (first | (with_reducible first | exact HB.out | apply below_alloc | apply pw_below_drewN | apply below_drew1 | refine below_set ?_ (IsS107.ge HI292.out) | refine below_set ?_ GE287.out | refine below_set ?_ GE300.out) | exact HB.out)) hb); clear HO298; clear BK287; clear HI292; clear BK300; clear HB; have HO298 := n0_; have HO303 := n1_; have BK287 := n2_; have HI292 := n3_; have BK300 := n4_; have HB := n5_; clear n0_ n1_ n2_ n3_ n4_ n5_; clear hb ho19))
    go_loopg [10] k (fun kq v10 w' => ∃ (x10_1 : Int), v10 = .int .i64 x10_1 ∧ Aside0 (kauditlaw03_RecordGets.l0 kq y301 x10_1 a0_0 a0_1 a0_2 l0_3 t293 t294 t295 t296 = some r) ∧ Aside0 (kq ≤ k) ∧ Aside0 (Kd.R Kd.string 9 w' w.heap.size (fun _ => True) v302 y301) ∧ Aside0 (Kd.R k34 34 w' w.heap.size (fun _ => True) (.slice Ao17 t296.length co17) t296) ∧ Aside0 (w'.heap[gb287]? = some (.cells #[.int .i64 a0_0, .int .i64 a0_1, .int .i64 a0_2, (.slice A0_3 l0_3.length c0_3)] 50 (0, 0))) ∧ Aside0 (w'.heap[gb300]? = some (.cells #[.int .i64 t293, .int .i64 t294, .int .i64 t295, (.slice Ao17 t296.length co17)] 50 (0, 0))) ∧ Aside0 (Below w.heap.size w w'))
    case atStart => exact ⟨(0), (by first | rfl | (simp; done) | (simp [*]; done) | (simp only [isEmpty_ne_]; done)), H', ⟨Nat.le_refl _⟩, ⟨by (with_reducible repeat (first | apply Kd.R_alloc | apply Kd.R_drewN | apply Kd.R_drew)); exact HO303.out⟩, ⟨by (with_reducible repeat (first | apply Kd.R_alloc | apply Kd.R_drewN | apply Kd.R_drew)); exact HO298.out⟩, ⟨by (with_reducible repeat (first | refine blk_drewN ?_ _ | refine blk_drew ?_ | refine blk_alloc ?_ _)); exact BK287.out⟩, ⟨by (with_reducible repeat (first | refine blk_drewN ?_ _ | refine blk_drew ?_ | refine blk_alloc ?_ _)); exact BK300.out⟩, ⟨by repeat (first | (with_reducible first | exact HB.out | apply below_alloc | apply pw_below_drewN | apply below_drew1 | refine below_set ?_ (IsS107.ge HI292.out) | refine below_set ?_ GE287.out | refine below_set ?_ GE300.out) | exact HB.out)⟩⟩
    case round =>
      clear H'; try clear c1; try clear c2; try clear p2; try clear c3; try clear c5; try clear c8; try clear c14; try clear c15; try clear hcz16_0; try clear hcz16_1; try clear hcz16_2; try clear hcz16_3; try clear hcz9_0; try clear hcz9_1; try clear hcz9_2; try clear hcz9_3; try clear hfz16_0; try clear hfz16_1; try clear hfz16_2; try clear hfz16_3; try clear hfz9_0; try clear hfz9_1; try clear hfz9_2; try clear hfz9_3
      obtain ⟨x10_1, rfl, HA, HK1, HO_9, HO_301003, BK287, BK300, HB⟩ := hrel
      cases gk with
      | zero => exact absurd HA.out (by simp [kauditlaw03_RecordGets.l0])
      | succ k1 =>
        have H := HA.out; clear HA
        simp only [kauditlaw03_RecordGets.l0] at H
        by_cases c20 : x10_1 < (y301.length : Int)
        · rw [if_pos c20] at H
          have c20b0 : decide (x10_1 < (y301.length : Int)) = true := decide_eq_true c20
          clear c20
          by_cases c21 : 0 ≤ x10_1
          · rw [if_pos c21] at H
            have c21b0 : decide (0 ≤ x10_1) = true := decide_eq_true c21
            clear c21
            replace H := Option.bind_eq_some_iff.mp H
            obtain ⟨⟨t306, t307, t308, t309, t310⟩, A220, H⟩ := H
            replace H : ((kauditref03_Get.f k1 a0_0 a0_1 a0_2 l0_3 (rdOf ByteArray.empty y301 x10_1)).bind fun bt313 => ((record_Get.f k1 t293 t294 t295 t296 (rdOf ByteArray.empty y301 x10_1)).bind fun bt320 => ((kauditref03_Get.f k1 t293 t294 t295 t296 (rdOf ByteArray.empty y301 x10_1)).bind fun bt327 => (if (t310 != bt313.2.2.2.2) = true then (some false) else (if (!(t306.toList == bt313.1.toList) || (!(t307 == bt313.2.1) || (!(t308 == bt313.2.2.1) || (!(t309.toList == bt313.2.2.2.1.toList))))) = true then (some false) else (if (bt320.2.2.2.2 != bt327.2.2.2.2) = true then (some false) else (if (!(bt320.1.toList == bt327.1.toList) || (!(bt320.2.1 == bt327.2.1) || (!(bt320.2.2.1 == bt327.2.2.1) || (!(bt320.2.2.2.1.toList == bt327.2.2.2.1.toList))))) = true then (some false) else (kauditlaw03_RecordGets.l0 k1 y301 (wrap64 (x10_1 + 1)) a0_0 a0_1 a0_2 l0_3 t293 t294 t295 t296)))))))) = some r := H
            have A22 := Aside0.mk A220; clear A220
            replace H := Option.bind_eq_some_iff.mp H
            obtain ⟨⟨t313, t314, t315, t316, t317⟩, A230, H⟩ := H
            replace H : ((record_Get.f k1 t293 t294 t295 t296 (rdOf ByteArray.empty y301 x10_1)).bind fun bt320 => ((kauditref03_Get.f k1 t293 t294 t295 t296 (rdOf ByteArray.empty y301 x10_1)).bind fun bt327 => (if (t310 != t317) = true then (some false) else (if (!(t306.toList == t313.toList) || (!(t307 == t314) || (!(t308 == t315) || (!(t309.toList == t316.toList))))) = true then (some false) else (if (bt320.2.2.2.2 != bt327.2.2.2.2) = true then (some false) else (if (!(bt320.1.toList == bt327.1.toList) || (!(bt320.2.1 == bt327.2.1) || (!(bt320.2.2.1 == bt327.2.2.1) || (!(bt320.2.2.2.1.toList == bt327.2.2.2.1.toList))))) = true then (some false) else (kauditlaw03_RecordGets.l0 k1 y301 (wrap64 (x10_1 + 1)) a0_0 a0_1 a0_2 l0_3 t293 t294 t295 t296))))))) = some r := H
            have A23 := Aside0.mk A230; clear A230
            replace H := Option.bind_eq_some_iff.mp H
            obtain ⟨⟨t320, t321, t322, t323, t324⟩, A240, H⟩ := H
            replace H : ((kauditref03_Get.f k1 t293 t294 t295 t296 (rdOf ByteArray.empty y301 x10_1)).bind fun bt327 => (if (t310 != t317) = true then (some false) else (if (!(t306.toList == t313.toList) || (!(t307 == t314) || (!(t308 == t315) || (!(t309.toList == t316.toList))))) = true then (some false) else (if (t324 != bt327.2.2.2.2) = true then (some false) else (if (!(t320.toList == bt327.1.toList) || (!(t321 == bt327.2.1) || (!(t322 == bt327.2.2.1) || (!(t323.toList == bt327.2.2.2.1.toList))))) = true then (some false) else (kauditlaw03_RecordGets.l0 k1 y301 (wrap64 (x10_1 + 1)) a0_0 a0_1 a0_2 l0_3 t293 t294 t295 t296)))))) = some r := H
            have A24 := Aside0.mk A240; clear A240
            replace H := Option.bind_eq_some_iff.mp H
            obtain ⟨⟨t327, t328, t329, t330, t331⟩, A250, H⟩ := H
            replace H : (if (t310 != t317) = true then (some false) else (if (!(t306.toList == t313.toList) || (!(t307 == t314) || (!(t308 == t315) || (!(t309.toList == t316.toList))))) = true then (some false) else (if (t324 != t331) = true then (some false) else (if (!(t320.toList == t327.toList) || (!(t321 == t328) || (!(t322 == t329) || (!(t323.toList == t330.toList))))) = true then (some false) else (kauditlaw03_RecordGets.l0 k1 y301 (wrap64 (x10_1 + 1)) a0_0 a0_1 a0_2 l0_3 t293 t294 t295 t296))))) = some r := H
            have A25 := Aside0.mk A250; clear A250
            obtain ⟨Ao214, co214, eo214⟩ := Kd.R_slice HO_9.out
            subst eo214; try go_wp2
            have n0_ := Aside0.mk (Kd.R_drew HO_9.out)
            have n1_ := Aside0.mk (Kd.R_drew HO_301003.out)
            have n2_ := Aside0.mk (blk_drew BK287.out)
            have n3_ := Aside0.mk (blk_drew BK300.out)
            have n4_ := Aside0.mk (below_drew1 HB.out)
            clear HO_9; clear HO_301003; clear BK287; clear BK300; clear HB; have HO_9 := n0_; have HO_301003 := n1_; have BK287 := n2_; have BK300 := n3_; have HB := n4_; clear n0_ n1_ n2_ n3_ n4_
            have p305 : 0 ≤ (x10_1 : Int) := of_decide_eq_true (by first | (with_reducible assumption) | assumption)
            have q305 : x10_1 < (y301.length : Int) := of_decide_eq_true (by first | (with_reducible assumption) | assumption)
            obtain ⟨ad305, e305, hx305_0⟩ := Kd.at_string (Kd.R_reads' HO_9.out).2.2 x10_1 p305 q305
            cases e305; replace p305 := eq_true p305; replace q305 := eq_true q305
            refine start_ (n := 12) (S := fun w' => w'.cell? ⟨gb287, 0, none⟩ = some (.int .i64 a0_0) ∧ w'.cell? ⟨gb287, 1, none⟩ = some (.int .i64 a0_1) ∧ w'.cell? ⟨gb287, 2, none⟩ = some (.int .i64 a0_2) ∧ w'.cell? ⟨gb287, 3, none⟩ = some (.slice A0_3 l0_3.length c0_3) ∧ w'.cell? (ad305.add (x10_1).toNat) = some (.string (rdOf ByteArray.empty y301 x10_1))) (ds := []) #[false, false, false, false, false, false, false, false, false, false, false, false] (by kernel_rfl) rfl rfl ⟨(blk_cell BK287.out 0).trans rfl, (blk_cell BK287.out 1).trans rfl, (blk_cell BK287.out 2).trans rfl, (blk_cell BK287.out 3).trans rfl, hx305_0⟩ (fun hHeld => ?_); refine with_tabW kauditlaw03_RecordGets.tab9 kauditlaw03_RecordGets.bits9 (fun HT_ HW_ => ?_)
            generalize wr.drew = w215 at HO_9 HO_301003 BK287 BK300 HB hx305_0 hHeld ⊢
            refine pure_ (i := 1) (N := some 37) (v := ?_) (a' := ?_) #[false, true, false, false, false, false, false, false, false, false, false, false] rfl rfl (any_of HT_.out (by kernel_rfl)) (fun _ _ _ h => h) (Or.inl ⟨by rfl, ?_⟩) ?_ ?_
            rotate_left
            · intro w'; go_simp; with_reducible rfl
            rotate_left
            · simp only [Act.put, List.setIfInBounds_toArray, List.set_cons_zero, List.set_cons_succ, i64_w, i32_w]; rfl
            refine pure_ (i := 2) (N := some 38) (v := ?_) (a' := ?_) #[false, true, true, false, false, false, false, false, false, false, false, false] rfl rfl (any_of HT_.out (by kernel_rfl)) (fun _ _ _ h => h) (Or.inl ⟨by rfl, ?_⟩) ?_ ?_
            rotate_left
            · intro w'; go_simp; with_reducible rfl
            rotate_left
            · simp only [Act.put, List.setIfInBounds_toArray, List.set_cons_zero, List.set_cons_succ, i64_w, i32_w]; rfl
            refine pure_ (i := 3) (N := some 39) (v := ?_) (a' := ?_) #[false, true, true, true, false, false, false, false, false, false, false, false] rfl rfl (any_of HT_.out (by kernel_rfl)) (fun _ _ _ h => h) (Or.inl ⟨by rfl, ?_⟩) ?_ ?_
            rotate_left
            · intro w'; go_simp; with_reducible rfl
            rotate_left
            · simp only [Act.put, List.setIfInBounds_toArray, List.set_cons_zero, List.set_cons_succ, i64_w, i32_w]; rfl
            refine take_ (i := 0) (N := some 36) (v := ?_) (a' := ?_) #[true, true, true, true, false, false, false, false, false, false, false, false] rfl rfl (take_ofW HT_.out HW_.out (by kernel_rfl)) (fun _ _ _ h => h) (Or.inl ⟨by rfl, ?_⟩) hHeld ?_ ?_
            rotate_left
            · rintro w' ⟨s0, s1, s2, s3, s4⟩
              go_simp; with_reducible rfl
            rotate_left
            · simp only [Act.put, List.setIfInBounds_toArray, List.set_cons_zero, List.set_cons_succ, i64_w, i32_w]; rfl
            refine take_ (i := 4) (N := some 40) (v := ?_) (a' := ?_) #[true, true, true, true, true, false, false, false, false, false, false, false] rfl rfl (take_ofW HT_.out HW_.out (by kernel_rfl)) (fun _ _ _ h => h) (Or.inl ⟨by rfl, ?_⟩) hHeld ?_ ?_
            rotate_left
            · rintro w' ⟨s0, s1, s2, s3, s4⟩
              go_simp; with_reducible rfl
            rotate_left
            · simp only [Act.put, List.setIfInBounds_toArray, List.set_cons_zero, List.set_cons_succ, i64_w, i32_w]; rfl
            refine join_ (σ := Nat) 2 #[true, true, true, true, true, true, true, true, true, true, false, false] (fun s_ => [(41, .tuple #[.agg #[.string t306, .int .i64 t307, .int .i64 t308, .string t309], .bool t310]), (11, .pointer (some ⟨s_, 0, none⟩)), (35, .tuple #[.agg #[.string t306, .int .i64 t307, .int .i64 t308, .string t309], .bool t310]), (42, .agg #[.string t306, .int .i64 t307, .int .i64 t308, .string t309]), (43, .bool t310)]) (fun s_ w' => (w'.cell? ⟨gb287, 0, none⟩ = some (.int .i64 a0_0) ∧ w'.cell? ⟨gb287, 1, none⟩ = some (.int .i64 a0_1) ∧ w'.cell? ⟨gb287, 2, none⟩ = some (.int .i64 a0_2) ∧ w'.cell? ⟨gb287, 3, none⟩ = some (.slice A0_3 l0_3.length c0_3) ∧ w'.cell? (ad305.add (x10_1).toNat) = some (.string (rdOf ByteArray.empty y301 x10_1))) ∧ (Kd.R k34 34 w' w.heap.size (fun k_ => k_ ≠ s_) (.slice Ao17 t296.length co17) t296) ∧ (Kd.R Kd.string 9 w' w.heap.size (fun _ => True) (.slice (some ad305) y301.length co214) y301) ∧ (w'.heap[gb287]? = some (.cells #[.int .i64 a0_0, .int .i64 a0_1, .int .i64 a0_2, .slice A0_3 l0_3.length c0_3] 50 (0, 0))) ∧ (w'.heap[gb300]? = some (.cells #[.int .i64 t293, .int .i64 t294, .int .i64 t295, .slice Ao17 t296.length co17] 50 (0, 0))) ∧ (w'.heap[s_]? = some (.cells #[.string (⟨#[]⟩ : ByteArray), .int .i64 0, .int .i64 0, .string (⟨#[]⟩ : ByteArray)] 34 (0, 0))) ∧ (w.heap.size ≤ s_) ∧ (w.heap.size ≤ s_) ∧ (gb287 ≠ s_) ∧ (s_ ≠ gb287) ∧ (gb300 ≠ s_) ∧ (s_ ≠ gb300) ∧ (Below w.heap.size w w')) ?_ ?_
            rotate_left
            · intro hCont
              refine two_ (i := 5) (j := 9) (Ni := some 41) (Nj := some 11) #[true, true, true, true, true, true, false, false, false, false, false, false] #[true, true, true, true, true, false, false, false, false, true, false, false] rfl rfl rfl rfl (two_of HT_.out (by kernel_rfl)) (by decide) (by decide) (fun K hK => ?_) (fun K hK => ?_)
              · skip
                refine goes_ Tryd.func38 (by kernel_rfl) rfl #[.agg #[.int .i64 a0_0, .int .i64 a0_1, .int .i64 a0_2, .slice A0_3 l0_3.length c0_3], .string (rdOf ByteArray.empty y301 x10_1)] (by rfl) rfl rfl (by (try simp only [List.map_toArray, List.map_cons, List.map_nil]); first | done | rfl | (simp only [List.length_drop, List.length_take]; rfl)) ?_
                with_reducible refine (record_Get.calls k1 a0_0 a0_1 a0_2 _ _ l0_3 (rdOf ByteArray.empty y301 x10_1) t306 t307 t308 t309 t310 _ ?side1 ?side2 A22.out).mono ?_
                (case side1 => repeat (first | exact (Kd.C_below HR0_3.out HB.out) | (with_reducible refine Kd.C_alloc ?_ _) | (with_reducible refine Kd.C_drewN ?_ _) | (with_reducible refine Kd.C_drew ?_)))
                (case side2 => exact HC0_3.out)
                rintro e w216 ⟨rfl, hb⟩
                have HS4_ := (hb.cell (World.block_lt_of_cell? _ _ (hHeld.2.2.2.2))).trans (hHeld.2.2.2.2)
                refine ⟨_, rfl, ?_⟩
                have n0_ := Aside0.mk (Kd.R_below (by (with_reducible repeat (first | apply Kd.R_alloc | apply Kd.R_drewN | apply Kd.R_drew)); exact HO_9.out) hb)
                have n1_ := Aside0.mk (Kd.R_below (by (with_reducible repeat (first | apply Kd.R_alloc | apply Kd.R_drewN | apply Kd.R_drew)); exact HO_301003.out) hb)
                have n2_ := Aside0.mk (blk_below (g := gb287) (o := .cells #[.int .i64 a0_0, .int .i64 a0_1, .int .i64 a0_2, .slice A0_3 l0_3.length c0_3] 50 (0, 0)) (by (with_reducible repeat (first | refine blk_drewN ?_ _ | refine blk_drew ?_ | refine blk_alloc ?_ _)); exact BK287.out) hb)
                have n3_ := Aside0.mk (blk_below (g := gb300) (o := .cells #[.int .i64 t293, .int .i64 t294, .int .i64 t295, .slice Ao17 t296.length co17] 50 (0, 0)) (by (with_reducible repeat (first | refine blk_drewN ?_ _ | refine blk_drew ?_ | refine blk_alloc ?_ _)); exact BK300.out) hb)
                have n4_ := Aside0.mk (below_step (by repeat (first | (with_reducible first | exact HB.out | apply below_alloc | apply pw_below_drewN | apply below_drew1 | refine below_set ?_ GE287.out | refine below_set ?_ GE300.out) | exact HB.out)) hb)
                clear HO_9; clear HO_301003; clear BK287; clear BK300; clear HB; have HO_9 := n0_; have HO_301003 := n1_; have BK287 := n2_; have BK300 := n3_; have HB := n4_; clear n0_ n1_ n2_ n3_ n4_
                (try clear hb)
                (try clear hb2)
                (try clear hk)
                (try clear hi)
                refine hK.out _ _ ⟨(blk_cell BK287.out 0).trans rfl, (blk_cell BK287.out 1).trans rfl, (blk_cell BK287.out 2).trans rfl, (blk_cell BK287.out 3).trans rfl, HS4_⟩ (fun hHeld => ?_)
                clear hK K
                refine norm_ (a' := ?_) ?_ ?_
                rotate_left
                · show Act.put _ (some 41) _ = _
                  simp only [Act.put, List.setIfInBounds_toArray, List.set_cons_zero, List.set_cons_succ, i64_w, i32_w]; rfl
                refine pure_ (i := 6) (N := some 35) (v := ?_) (a' := ?_) #[true, true, true, true, true, true, true, false, false, false, false, false] rfl rfl (any_of HT_.out (by kernel_rfl)) (fun _ _ _ h => h) (Or.inl ⟨by rfl, ?_⟩) ?_ ?_
                rotate_left
                · intro w'; go_simp; with_reducible rfl
                rotate_left
                · simp only [Act.put, List.setIfInBounds_toArray, List.set_cons_zero, List.set_cons_succ, i64_w, i32_w]; rfl
                refine pure_ (i := 7) (N := some 42) (v := ?_) (a' := ?_) #[true, true, true, true, true, true, true, true, false, false, false, false] rfl rfl (any_of HT_.out (by kernel_rfl)) (fun _ _ _ h => h) (Or.inl ⟨by rfl, ?_⟩) ?_ ?_
                rotate_left
                · intro w'; go_simp; with_reducible rfl
                rotate_left
                · simp only [Act.put, List.setIfInBounds_toArray, List.set_cons_zero, List.set_cons_succ, i64_w, i32_w]; rfl
                refine pure_ (i := 8) (N := some 43) (v := ?_) (a' := ?_) #[true, true, true, true, true, true, true, true, true, false, false, false] rfl rfl (any_of HT_.out (by kernel_rfl)) (fun _ _ _ h => h) (Or.inl ⟨by rfl, ?_⟩) ?_ ?_
                rotate_left
                · intro w'; go_simp; with_reducible rfl
                rotate_left
                · simp only [Act.put, List.setIfInBounds_toArray, List.set_cons_zero, List.set_cons_succ, i64_w, i32_w]; rfl
                refine one_ (i := 9) (N := some 11) #[true, true, true, true, true, true, true, true, true, true, false, false] rfl rfl (one_of HT_.out (by kernel_rfl)) (by decide) (fun K hK => ?_)
                refine box_step ?hg (N := 11) ?hd (cs := #[.string (⟨#[]⟩ : ByteArray), .int .i64 0, .int .i64 0, .string (⟨#[]⟩ : ByteArray)]) (t := 34) ?hr ?_; (case hd => rfl); (case hg => rfl); (case hr => first | (go_simp; done) | (go_simp; rfl))
                intro gb311 hg w217 hbox hb
                have HS4_ := (hb.cell (World.block_lt_of_cell? _ _ (hHeld.2.2.2.2))).trans (hHeld.2.2.2.2)
                have n0_ := Aside0.mk (Kd.R_below (by (with_reducible repeat (first | apply Kd.R_alloc | apply Kd.R_drewN | apply Kd.R_drew)); exact HO_9.out) hb)
                have n1_ := Aside0.mk (Kd.R_below (Kd.R_elderB (by (with_reducible repeat (first | apply Kd.R_alloc | apply Kd.R_drewN | apply Kd.R_drew)); exact HO_301003.out) gb311 (Nat.le_of_eq hg.symm)) hb)
                have n2_ := Aside0.mk (blk_below (g := gb287) (o := .cells #[.int .i64 a0_0, .int .i64 a0_1, .int .i64 a0_2, .slice A0_3 l0_3.length c0_3] 50 (0, 0)) (by (with_reducible repeat (first | refine blk_drewN ?_ _ | refine blk_drew ?_ | refine blk_alloc ?_ _)); exact BK287.out) hb)
                have n3_ := Aside0.mk (blk_below (g := gb300) (o := .cells #[.int .i64 t293, .int .i64 t294, .int .i64 t295, .slice Ao17 t296.length co17] 50 (0, 0)) (by (with_reducible repeat (first | refine blk_drewN ?_ _ | refine blk_drew ?_ | refine blk_alloc ?_ _)); exact BK300.out) hb)
                have n4_ := Aside0.mk (below_step (by repeat (first | (with_reducible first | exact HB.out | apply below_alloc | apply pw_below_drewN | apply below_drew1 | refine below_set ?_ GE287.out | refine below_set ?_ GE300.out) | exact HB.out)) hb)
                have n5_ := Aside0.mk (hbox)
                have n6_ := Aside0.mk ((by rw [hg]; exact (below_size (by repeat (first | (with_reducible first | exact HB.out | apply below_alloc | apply pw_below_drewN | apply below_drew1 | refine below_set ?_ GE287.out | refine below_set ?_ GE300.out) | exact HB.out))) : w.heap.size ≤ gb311))
                have n7_ := Aside0.mk ((by rw [hg]; exact (below_size (by repeat (first | (with_reducible first | exact HB.out | apply below_alloc | apply pw_below_drewN | apply below_drew1 | refine below_set ?_ GE287.out | refine below_set ?_ GE300.out) | exact HB.out))) : w.heap.size ≤ gb311))
                have n8_ := Aside0.mk ((by rw [hg]; exact Nat.ne_of_lt (blk_lt (g := gb287) (o := .cells #[.int .i64 a0_0, .int .i64 a0_1, .int .i64 a0_2, .slice A0_3 l0_3.length c0_3] 50 (0, 0)) (by (with_reducible repeat (first | refine blk_drewN ?_ _ | refine blk_drew ?_ | refine blk_alloc ?_ _)); exact BK287.out)) : gb287 ≠ gb311))
                have n9_ := Aside0.mk ((by rw [hg]; exact Nat.ne_of_gt (blk_lt (g := gb287) (o := .cells #[.int .i64 a0_0, .int .i64 a0_1, .int .i64 a0_2, .slice A0_3 l0_3.length c0_3] 50 (0, 0)) (by (with_reducible repeat (first | refine blk_drewN ?_ _ | refine blk_drew ?_ | refine blk_alloc ?_ _)); exact BK287.out)) : gb311 ≠ gb287))
                have n10_ := Aside0.mk ((by rw [hg]; exact Nat.ne_of_lt (blk_lt (g := gb300) (o := .cells #[.int .i64 t293, .int .i64 t294, .int .i64 t295, .slice Ao17 t296.length co17] 50 (0, 0)) (by (with_reducible repeat (first | refine blk_drewN ?_ _ | refine blk_drew ?_ | refine blk_alloc ?_ _)); exact BK300.out)) : gb300 ≠ gb311))
                have n11_ := Aside0.mk ((by rw [hg]; exact Nat.ne_of_gt (blk_lt (g := gb300) (o := .cells #[.int .i64 t293, .int .i64 t294, .int .i64 t295, .slice Ao17 t296.length co17] 50 (0, 0)) (by (with_reducible repeat (first | refine blk_drewN ?_ _ | refine blk_drew ?_ | refine blk_alloc ?_ _)); exact BK300.out)) : gb311 ≠ gb300))
                clear HO_9; clear HO_301003; clear BK287; clear BK300; clear HB; have HO_9 := n0_; have HO_301003 := n1_; have BK287 := n2_; have BK300 := n3_; have HB := n4_; have BK311 := n5_; have GW311 := n6_; have GE311 := n7_; have NB287_311 := n8_; have NB311_287 := n9_; have NB300_311 := n10_; have NB311_300 := n11_; clear n0_ n1_ n2_ n3_ n4_ n5_ n6_ n7_ n8_ n9_ n10_ n11_; clear hb hbox hg
                refine hK.out _ _ ⟨(blk_cell BK287.out 0).trans rfl, (blk_cell BK287.out 1).trans rfl, (blk_cell BK287.out 2).trans rfl, (blk_cell BK287.out 3).trans rfl, HS4_⟩ (fun hHeld => ?_)
                clear hK K
                refine norm_ (a' := ?_) ?_ ?_
                rotate_left
                · show Act.put _ (some 11) _ = _
                  simp only [Act.put, List.setIfInBounds_toArray, List.set_cons_zero, List.set_cons_succ, i64_w, i32_w]; rfl
                exact norm_ (by simp only [putAll, Act.put, List.setIfInBounds_toArray, List.set_cons_zero, List.set_cons_succ]) (hCont (gb311) _ ⟨hHeld, (by (with_reducible repeat (first | apply Kd.R_alloc | apply Kd.R_drewN | apply Kd.R_drew)); exact Kd.R_mono HO_301003.out (fun _ hk => hk.2)), (by (with_reducible repeat (first | apply Kd.R_alloc | apply Kd.R_drewN | apply Kd.R_drew)); exact HO_9.out), (by (with_reducible repeat (first | refine blk_drewN ?_ _ | refine blk_drew ?_ | refine blk_alloc ?_ _)); exact BK287.out), (by (with_reducible repeat (first | refine blk_drewN ?_ _ | refine blk_drew ?_ | refine blk_alloc ?_ _)); exact BK300.out), (by (with_reducible repeat (first | refine blk_drewN ?_ _ | refine blk_drew ?_ | refine blk_alloc ?_ _)); exact BK311.out), GW311.out, GE311.out, NB287_311.out, NB311_287.out, NB300_311.out, NB311_300.out, (by repeat (first | (with_reducible first | exact HB.out | apply below_alloc | apply pw_below_drewN | apply below_drew1 | refine below_set ?_ GE287.out | refine below_set ?_ GE300.out | refine below_set ?_ GE311.out) | exact HB.out))⟩)
              · skip
                refine box_step ?hg (N := 11) ?hd (cs := #[.string (⟨#[]⟩ : ByteArray), .int .i64 0, .int .i64 0, .string (⟨#[]⟩ : ByteArray)]) (t := 34) ?hr ?_; (case hd => rfl); (case hg => rfl); (case hr => first | (go_simp; done) | (go_simp; rfl))
                intro gb311 hg w216 hbox hb
                have HS4_ := (hb.cell (World.block_lt_of_cell? _ _ (hHeld.2.2.2.2))).trans (hHeld.2.2.2.2)
                have n0_ := Aside0.mk (Kd.R_below (by (with_reducible repeat (first | apply Kd.R_alloc | apply Kd.R_drewN | apply Kd.R_drew)); exact HO_9.out) hb)
                have n1_ := Aside0.mk (Kd.R_below (Kd.R_elderB (by (with_reducible repeat (first | apply Kd.R_alloc | apply Kd.R_drewN | apply Kd.R_drew)); exact HO_301003.out) gb311 (Nat.le_of_eq hg.symm)) hb)
                have n2_ := Aside0.mk (blk_below (g := gb287) (o := .cells #[.int .i64 a0_0, .int .i64 a0_1, .int .i64 a0_2, .slice A0_3 l0_3.length c0_3] 50 (0, 0)) (by (with_reducible repeat (first | refine blk_drewN ?_ _ | refine blk_drew ?_ | refine blk_alloc ?_ _)); exact BK287.out) hb)
                have n3_ := Aside0.mk (blk_below (g := gb300) (o := .cells #[.int .i64 t293, .int .i64 t294, .int .i64 t295, .slice Ao17 t296.length co17] 50 (0, 0)) (by (with_reducible repeat (first | refine blk_drewN ?_ _ | refine blk_drew ?_ | refine blk_alloc ?_ _)); exact BK300.out) hb)
                have n4_ := Aside0.mk (below_step (by repeat (first | (with_reducible first | exact HB.out | apply below_alloc | apply pw_below_drewN | apply below_drew1 | refine below_set ?_ GE287.out | refine below_set ?_ GE300.out) | exact HB.out)) hb)
                have n5_ := Aside0.mk (hbox)
                have n6_ := Aside0.mk ((by rw [hg]; exact (below_size (by repeat (first | (with_reducible first | exact HB.out | apply below_alloc | apply pw_below_drewN | apply below_drew1 | refine below_set ?_ GE287.out | refine below_set ?_ GE300.out) | exact HB.out))) : w.heap.size ≤ gb311))
                have n7_ := Aside0.mk ((by rw [hg]; exact (below_size (by repeat (first | (with_reducible first | exact HB.out | apply below_alloc | apply pw_below_drewN | apply below_drew1 | refine below_set ?_ GE287.out | refine below_set ?_ GE300.out) | exact HB.out))) : w.heap.size ≤ gb311))
                have n8_ := Aside0.mk ((by rw [hg]; exact Nat.ne_of_lt (blk_lt (g := gb287) (o := .cells #[.int .i64 a0_0, .int .i64 a0_1, .int .i64 a0_2, .slice A0_3 l0_3.length c0_3] 50 (0, 0)) (by (with_reducible repeat (first | refine blk_drewN ?_ _ | refine blk_drew ?_ | refine blk_alloc ?_ _)); exact BK287.out)) : gb287 ≠ gb311))
                have n9_ := Aside0.mk ((by rw [hg]; exact Nat.ne_of_gt (blk_lt (g := gb287) (o := .cells #[.int .i64 a0_0, .int .i64 a0_1, .int .i64 a0_2, .slice A0_3 l0_3.length c0_3] 50 (0, 0)) (by (with_reducible repeat (first | refine blk_drewN ?_ _ | refine blk_drew ?_ | refine blk_alloc ?_ _)); exact BK287.out)) : gb311 ≠ gb287))
                have n10_ := Aside0.mk ((by rw [hg]; exact Nat.ne_of_lt (blk_lt (g := gb300) (o := .cells #[.int .i64 t293, .int .i64 t294, .int .i64 t295, .slice Ao17 t296.length co17] 50 (0, 0)) (by (with_reducible repeat (first | refine blk_drewN ?_ _ | refine blk_drew ?_ | refine blk_alloc ?_ _)); exact BK300.out)) : gb300 ≠ gb311))
                have n11_ := Aside0.mk ((by rw [hg]; exact Nat.ne_of_gt (blk_lt (g := gb300) (o := .cells #[.int .i64 t293, .int .i64 t294, .int .i64 t295, .slice Ao17 t296.length co17] 50 (0, 0)) (by (with_reducible repeat (first | refine blk_drewN ?_ _ | refine blk_drew ?_ | refine blk_alloc ?_ _)); exact BK300.out)) : gb311 ≠ gb300))
                clear HO_9; clear HO_301003; clear BK287; clear BK300; clear HB; have HO_9 := n0_; have HO_301003 := n1_; have BK287 := n2_; have BK300 := n3_; have HB := n4_; have BK311 := n5_; have GW311 := n6_; have GE311 := n7_; have NB287_311 := n8_; have NB311_287 := n9_; have NB300_311 := n10_; have NB311_300 := n11_; clear n0_ n1_ n2_ n3_ n4_ n5_ n6_ n7_ n8_ n9_ n10_ n11_; clear hb hbox hg
                refine hK.out _ _ ⟨(blk_cell BK287.out 0).trans rfl, (blk_cell BK287.out 1).trans rfl, (blk_cell BK287.out 2).trans rfl, (blk_cell BK287.out 3).trans rfl, HS4_⟩ (fun hHeld => ?_)
                clear hK K
                refine norm_ (a' := ?_) ?_ ?_
                rotate_left
                · show Act.put _ (some 11) _ = _
                  simp only [Act.put, List.setIfInBounds_toArray, List.set_cons_zero, List.set_cons_succ, i64_w, i32_w]; rfl
                refine one_ (i := 5) (N := some 41) #[true, true, true, true, true, true, false, false, false, true, false, false] rfl rfl (one_of HT_.out (by kernel_rfl)) (by decide) (fun K hK => ?_)
                refine goes_ Tryd.func38 (by kernel_rfl) rfl #[.agg #[.int .i64 a0_0, .int .i64 a0_1, .int .i64 a0_2, .slice A0_3 l0_3.length c0_3], .string (rdOf ByteArray.empty y301 x10_1)] (by rfl) rfl rfl (by (try simp only [List.map_toArray, List.map_cons, List.map_nil]); first | done | rfl | (simp only [List.length_drop, List.length_take]; rfl)) ?_
                with_reducible refine (record_Get.calls k1 a0_0 a0_1 a0_2 _ _ l0_3 (rdOf ByteArray.empty y301 x10_1) t306 t307 t308 t309 t310 _ ?side1 ?side2 A22.out).mono ?_
                (case side1 => repeat (first | exact (Kd.C_below HR0_3.out HB.out) | (with_reducible refine Kd.C_alloc ?_ _) | (with_reducible refine Kd.C_drewN ?_ _) | (with_reducible refine Kd.C_drew ?_)))
                (case side2 => exact HC0_3.out)
                rintro e w217 ⟨rfl, hb⟩
                have HS4_ := (hb.cell (World.block_lt_of_cell? _ _ (hHeld.2.2.2.2))).trans (hHeld.2.2.2.2)
                refine ⟨_, rfl, ?_⟩
                have n0_ := Aside0.mk (Kd.R_below (by (with_reducible repeat (first | apply Kd.R_alloc | apply Kd.R_drewN | apply Kd.R_drew)); exact HO_9.out) hb)
                have n1_ := Aside0.mk (Kd.R_below (by (with_reducible repeat (first | apply Kd.R_alloc | apply Kd.R_drewN | apply Kd.R_drew)); exact HO_301003.out) hb)
                have n2_ := Aside0.mk (blk_below (g := gb287) (o := .cells #[.int .i64 a0_0, .int .i64 a0_1, .int .i64 a0_2, .slice A0_3 l0_3.length c0_3] 50 (0, 0)) (by (with_reducible repeat (first | refine blk_drewN ?_ _ | refine blk_drew ?_ | refine blk_alloc ?_ _)); exact BK287.out) hb)
                have n3_ := Aside0.mk (blk_below (g := gb300) (o := .cells #[.int .i64 t293, .int .i64 t294, .int .i64 t295, .slice Ao17 t296.length co17] 50 (0, 0)) (by (with_reducible repeat (first | refine blk_drewN ?_ _ | refine blk_drew ?_ | refine blk_alloc ?_ _)); exact BK300.out) hb)
                have n4_ := Aside0.mk (blk_below (g := gb311) (o := .cells #[.string (⟨#[]⟩ : ByteArray), .int .i64 0, .int .i64 0, .string (⟨#[]⟩ : ByteArray)] 34 (0, 0)) (by (with_reducible repeat (first | refine blk_drewN ?_ _ | refine blk_drew ?_ | refine blk_alloc ?_ _)); exact BK311.out) hb)
                have n5_ := Aside0.mk (below_step (by repeat (first | (with_reducible first | exact HB.out | apply below_alloc | apply pw_below_drewN | apply below_drew1 | refine below_set ?_ GE287.out | refine below_set ?_ GE300.out | refine below_set ?_ GE311.out) | exact HB.out)) hb)
                clear HO_9; clear HO_301003; clear BK287; clear BK300; clear BK311; clear HB; have HO_9 := n0_; have HO_301003 := n1_; have BK287 := n2_; have BK300 := n3_; have BK311 := n4_; have HB := n5_; clear n0_ n1_ n2_ n3_ n4_ n5_
                (try clear hb)
                (try clear hb2)
                (try clear hk)
                (try clear hi)
                refine hK.out _ _ ⟨(blk_cell BK287.out 0).trans rfl, (blk_cell BK287.out 1).trans rfl, (blk_cell BK287.out 2).trans rfl, (blk_cell BK287.out 3).trans rfl, HS4_⟩ (fun hHeld => ?_)
                clear hK K
                refine norm_ (a' := ?_) ?_ ?_
                rotate_left
                · show Act.put _ (some 41) _ = _
                  simp only [Act.put, List.setIfInBounds_toArray, List.set_cons_zero, List.set_cons_succ, i64_w, i32_w]; rfl
                refine pure_ (i := 6) (N := some 35) (v := ?_) (a' := ?_) #[true, true, true, true, true, true, true, false, false, true, false, false] rfl rfl (any_of HT_.out (by kernel_rfl)) (fun _ _ _ h => h) (Or.inl ⟨by rfl, ?_⟩) ?_ ?_
                rotate_left
                · intro w'; go_simp; with_reducible rfl
                rotate_left
                · simp only [Act.put, List.setIfInBounds_toArray, List.set_cons_zero, List.set_cons_succ, i64_w, i32_w]; rfl
                refine pure_ (i := 7) (N := some 42) (v := ?_) (a' := ?_) #[true, true, true, true, true, true, true, true, false, true, false, false] rfl rfl (any_of HT_.out (by kernel_rfl)) (fun _ _ _ h => h) (Or.inl ⟨by rfl, ?_⟩) ?_ ?_
                rotate_left
                · intro w'; go_simp; with_reducible rfl
                rotate_left
                · simp only [Act.put, List.setIfInBounds_toArray, List.set_cons_zero, List.set_cons_succ, i64_w, i32_w]; rfl
                refine pure_ (i := 8) (N := some 43) (v := ?_) (a' := ?_) #[true, true, true, true, true, true, true, true, true, true, false, false] rfl rfl (any_of HT_.out (by kernel_rfl)) (fun _ _ _ h => h) (Or.inl ⟨by rfl, ?_⟩) ?_ ?_
                rotate_left
                · intro w'; go_simp; with_reducible rfl
                rotate_left
                · simp only [Act.put, List.setIfInBounds_toArray, List.set_cons_zero, List.set_cons_succ, i64_w, i32_w]; rfl
                exact norm_ (by simp only [putAll, Act.put, List.setIfInBounds_toArray, List.set_cons_zero, List.set_cons_succ]) (hCont (gb311) _ ⟨hHeld, (by (with_reducible repeat (first | apply Kd.R_alloc | apply Kd.R_drewN | apply Kd.R_drew)); exact Kd.R_mono HO_301003.out (fun _ hk => hk.2)), (by (with_reducible repeat (first | apply Kd.R_alloc | apply Kd.R_drewN | apply Kd.R_drew)); exact HO_9.out), (by (with_reducible repeat (first | refine blk_drewN ?_ _ | refine blk_drew ?_ | refine blk_alloc ?_ _)); exact BK287.out), (by (with_reducible repeat (first | refine blk_drewN ?_ _ | refine blk_drew ?_ | refine blk_alloc ?_ _)); exact BK300.out), (by (with_reducible repeat (first | refine blk_drewN ?_ _ | refine blk_drew ?_ | refine blk_alloc ?_ _)); exact BK311.out), GW311.out, GE311.out, NB287_311.out, NB311_287.out, NB300_311.out, NB311_300.out, (by repeat (first | (with_reducible first | exact HB.out | apply below_alloc | apply pw_below_drewN | apply below_drew1 | refine below_set ?_ GE287.out | refine below_set ?_ GE300.out | refine below_set ?_ GE311.out) | exact HB.out))⟩)
            rintro gb311 w218 ⟨hS_, h0_, h1_, h2_, h3_, h4_, h5_, h6_, h7_, h8_, h9_, h10_, h11_⟩
            have n0_ : Aside0 (Kd.R k34 34 w218 w.heap.size (fun k_ => k_ ≠ gb311) (.slice Ao17 t296.length co17) t296) := ⟨h0_⟩
            have n1_ : Aside0 (Kd.R Kd.string 9 w218 w.heap.size (fun _ => True) (.slice (some ad305) y301.length co214) y301) := ⟨h1_⟩
            have n2_ : Aside0 (w218.heap[gb287]? = some (.cells #[.int .i64 a0_0, .int .i64 a0_1, .int .i64 a0_2, .slice A0_3 l0_3.length c0_3] 50 (0, 0))) := ⟨h2_⟩
            have n3_ : Aside0 (w218.heap[gb300]? = some (.cells #[.int .i64 t293, .int .i64 t294, .int .i64 t295, .slice Ao17 t296.length co17] 50 (0, 0))) := ⟨h3_⟩
            have n4_ : Aside0 (w218.heap[gb311]? = some (.cells #[.string (⟨#[]⟩ : ByteArray), .int .i64 0, .int .i64 0, .string (⟨#[]⟩ : ByteArray)] 34 (0, 0))) := ⟨h4_⟩
            have n5_ : Aside0 (w.heap.size ≤ gb311) := ⟨h5_⟩
            have n6_ : Aside0 (w.heap.size ≤ gb311) := ⟨h6_⟩
            have n7_ : Aside0 (gb287 ≠ gb311) := ⟨h7_⟩
            have n8_ : Aside0 (gb311 ≠ gb287) := ⟨h8_⟩
            have n9_ : Aside0 (gb300 ≠ gb311) := ⟨h9_⟩
            have n10_ : Aside0 (gb311 ≠ gb300) := ⟨h10_⟩
            have n11_ : Aside0 (Below w.heap.size w w218) := ⟨h11_⟩
            clear HO_9; clear HO_301003; clear BK287; clear BK300; clear HB; clear h0_ h1_ h2_ h3_ h4_ h5_ h6_ h7_ h8_ h9_ h10_ h11_; have HO_301003 := n0_; have HO_9 := n1_; have BK287 := n2_; have BK300 := n3_; have BK311 := n4_; have GW311 := n5_; have GE311 := n6_; have NB287_311 := n7_; have NB311_287 := n8_; have NB300_311 := n9_; have NB311_300 := n10_; have HB := n11_; clear n0_ n1_ n2_ n3_ n4_ n5_ n6_ n7_ n8_ n9_ n10_ n11_
            have hHeld : w218.cell? ⟨gb287, 0, none⟩ = some (.int .i64 a0_0) ∧ w218.cell? ⟨gb287, 1, none⟩ = some (.int .i64 a0_1) ∧ w218.cell? ⟨gb287, 2, none⟩ = some (.int .i64 a0_2) ∧ w218.cell? ⟨gb287, 3, none⟩ = some (.slice A0_3 l0_3.length c0_3) ∧ w218.cell? (ad305.add (x10_1).toNat) = some (.string (rdOf ByteArray.empty y301 x10_1)) := hS_
            refine norm_ (a' := ?_) ?_ ?_
            rotate_left
            · simp only [putAll, Act.put, List.setIfInBounds_toArray, List.set_cons_zero, List.set_cons_succ]; rfl
            refine one_ (i := 10) (N := none) #[true, true, true, true, true, true, true, true, true, true, true, false] rfl rfl (one_of HT_.out (by kernel_rfl)) (by decide) (fun K hK => ?_)
            have hs219 : w218.cell? ⟨gb311, 0, none⟩ = some (.string (⟨#[]⟩ : ByteArray)) := (blk_cell BK311.out 0).trans rfl
            have hfs219 := blk_frozen BK311.out 0
            have hns219_0 := NB287_311.out; have hns219_1 := NB300_311.out; have hms219_0 := NB311_287.out; have hms219_1 := NB311_300.out
            have hs220 : w218.cell? ⟨gb311, 1, none⟩ = some (.int .i64 0) := (blk_cell BK311.out 1).trans rfl
            have hfs220 := blk_frozen BK311.out 1
            have hns220_0 := NB287_311.out; have hns220_1 := NB300_311.out; have hms220_0 := NB311_287.out; have hms220_1 := NB311_300.out
            have hs221 : w218.cell? ⟨gb311, 2, none⟩ = some (.int .i64 0) := (blk_cell BK311.out 2).trans rfl
            have hfs221 := blk_frozen BK311.out 2
            have hns221_0 := NB287_311.out; have hns221_1 := NB300_311.out; have hms221_0 := NB311_287.out; have hms221_1 := NB311_300.out
            have hs222 : w218.cell? ⟨gb311, 3, none⟩ = some (.string (⟨#[]⟩ : ByteArray)) := (blk_cell BK311.out 3).trans rfl
            have hfs222 := blk_frozen BK311.out 3
            have hns222_0 := NB287_311.out; have hns222_1 := NB300_311.out; have hms222_0 := NB311_287.out; have hms222_1 := NB311_300.out
            refine skip_ (w1 := ?_) (by rfl) rfl ?_ ?_
            rotate_left
            · go_simp; rfl
            refine hK.out _ _ ⟨((cell_far (p := ⟨gb311, _, none⟩) NB287_311.out _).trans (((cell_far (p := ⟨gb311, _, none⟩) NB287_311.out _).trans (((cell_far (p := ⟨gb311, _, none⟩) NB287_311.out _).trans (((cell_far (p := ⟨gb311, _, none⟩) NB287_311.out _).trans (hHeld.1)))))))), ((cell_far (p := ⟨gb311, _, none⟩) NB287_311.out _).trans (((cell_far (p := ⟨gb311, _, none⟩) NB287_311.out _).trans (((cell_far (p := ⟨gb311, _, none⟩) NB287_311.out _).trans (((cell_far (p := ⟨gb311, _, none⟩) NB287_311.out _).trans (hHeld.2.1)))))))), ((cell_far (p := ⟨gb311, _, none⟩) NB287_311.out _).trans (((cell_far (p := ⟨gb311, _, none⟩) NB287_311.out _).trans (((cell_far (p := ⟨gb311, _, none⟩) NB287_311.out _).trans (((cell_far (p := ⟨gb311, _, none⟩) NB287_311.out _).trans (hHeld.2.2.1)))))))), ((cell_far (p := ⟨gb311, _, none⟩) NB287_311.out _).trans (((cell_far (p := ⟨gb311, _, none⟩) NB287_311.out _).trans (((cell_far (p := ⟨gb311, _, none⟩) NB287_311.out _).trans (((cell_far (p := ⟨gb311, _, none⟩) NB287_311.out _).trans (hHeld.2.2.2.1)))))))), ((cell_far (p := ⟨gb311, _, none⟩) (by first | exact Kd.own_blk (Kd.R_ne HO_9.out BK311.out (by decide)) | (rw [add_block]; exact Kd.own_blk (Kd.R_ne HO_9.out BK311.out (by decide))) | (show (Addr.add _ _).block ≠ _; rw [add_block]; exact Kd.own_blk (Kd.R_ne HO_9.out BK311.out (by decide))) | (dsimp only; exact Kd.own_blk (Kd.R_ne HO_9.out BK311.out (by decide)))) _).trans (((cell_far (p := ⟨gb311, _, none⟩) (by first | exact Kd.own_blk (Kd.R_ne HO_9.out BK311.out (by decide)) | (rw [add_block]; exact Kd.own_blk (Kd.R_ne HO_9.out BK311.out (by decide))) | (show (Addr.add _ _).block ≠ _; rw [add_block]; exact Kd.own_blk (Kd.R_ne HO_9.out BK311.out (by decide))) | (dsimp only; exact Kd.own_blk (Kd.R_ne HO_9.out BK311.out (by decide)))) _).trans (((cell_far (p := ⟨gb311, _, none⟩) (by first | exact Kd.own_blk (Kd.R_ne HO_9.out BK311.out (by decide)) | (rw [add_block]; exact Kd.own_blk (Kd.R_ne HO_9.out BK311.out (by decide))) | (show (Addr.add _ _).block ≠ _; rw [add_block]; exact Kd.own_blk (Kd.R_ne HO_9.out BK311.out (by decide))) | (dsimp only; exact Kd.own_blk (Kd.R_ne HO_9.out BK311.out (by decide)))) _).trans (((cell_far (p := ⟨gb311, _, none⟩) (by first | exact Kd.own_blk (Kd.R_ne HO_9.out BK311.out (by decide)) | (rw [add_block]; exact Kd.own_blk (Kd.R_ne HO_9.out BK311.out (by decide))) | (show (Addr.add _ _).block ≠ _; rw [add_block]; exact Kd.own_blk (Kd.R_ne HO_9.out BK311.out (by decide))) | (dsimp only; exact Kd.own_blk (Kd.R_ne HO_9.out BK311.out (by decide)))) _).trans (hHeld.2.2.2.2))))))))⟩ (fun hHeld => ?_)
            clear hK K
            refine pure_ (i := 11) (N := some 12) (v := ?_) (a' := ?_) #[true, true, true, true, true, true, true, true, true, true, true, true] rfl rfl (any_of HT_.out (by kernel_rfl)) (fun _ _ _ h => h) (Or.inl ⟨by rfl, ?_⟩) ?_ ?_
            rotate_left
            · intro w'; go_simp; with_reducible rfl
            rotate_left
            · simp only [Act.put, List.setIfInBounds_toArray, List.set_cons_zero, List.set_cons_succ, i64_w, i32_w]; rfl
            refine done_ (done_of HT_.out (by kernel_rfl)) ?_
            try go_wp2
            have n0_ : Aside0 (Kd.R Kd.string 9 ((((w218.setCell ⟨gb311, 0, none⟩ (.string t306)).setCell ⟨gb311, 1, none⟩ (.int .i64 t307)).setCell ⟨gb311, 2, none⟩ (.int .i64 t308)).setCell ⟨gb311, 3, none⟩ (.string t309)) w.heap.size (fun _ => True) (.slice (some ad305) y301.length co214) y301) := ⟨by (with_reducible repeat (first | apply Kd.R_alloc | apply Kd.R_drewN | apply Kd.R_drew)); exact Kd.R_mono (Kd.R_far (p := ⟨gb311, 3, none⟩) (Kd.R_far (p := ⟨gb311, 2, none⟩) (Kd.R_far (p := ⟨gb311, 1, none⟩) (Kd.R_far (p := ⟨gb311, 0, none⟩) (Kd.R_types HO_9.out BK311.out (by decide)) (fun _ hk => hk.2) (.string t306)) (fun _ hk => hk.2) (.int .i64 t307)) (fun _ hk => hk.2) (.int .i64 t308)) (fun _ hk => hk.2) (.string t309)) (fun _ hk => trivial)⟩
            have n1_ : Aside0 (Kd.R k34 34 ((((w218.setCell ⟨gb311, 0, none⟩ (.string t306)).setCell ⟨gb311, 1, none⟩ (.int .i64 t307)).setCell ⟨gb311, 2, none⟩ (.int .i64 t308)).setCell ⟨gb311, 3, none⟩ (.string t309)) w.heap.size (fun k_ => k_ ≠ gb311) (.slice Ao17 t296.length co17) t296) := ⟨by (with_reducible repeat (first | apply Kd.R_alloc | apply Kd.R_drewN | apply Kd.R_drew)); exact Kd.R_mono (Kd.R_far (p := ⟨gb311, 3, none⟩) (Kd.R_far (p := ⟨gb311, 2, none⟩) (Kd.R_far (p := ⟨gb311, 1, none⟩) (Kd.R_far (p := ⟨gb311, 0, none⟩) (Kd.R_mono HO_301003.out (fun k_ hk => (⟨hk, hk⟩ : _ ∧ k_ ≠ gb311))) (fun _ hk => hk.2) (.string t306)) (fun _ hk => hk.2) (.int .i64 t307)) (fun _ hk => hk.2) (.int .i64 t308)) (fun _ hk => hk.2) (.string t309)) (fun _ hk => hk.1)⟩
            have n2_ : Aside0 (((((w218.setCell ⟨gb311, 0, none⟩ (.string t306)).setCell ⟨gb311, 1, none⟩ (.int .i64 t307)).setCell ⟨gb311, 2, none⟩ (.int .i64 t308)).setCell ⟨gb311, 3, none⟩ (.string t309)).heap[gb287]? = some (.cells #[.int .i64 a0_0, .int .i64 a0_1, .int .i64 a0_2, .slice A0_3 l0_3.length c0_3] 50 (0, 0))) := ⟨by (with_reducible repeat (first | refine blk_drewN ?_ _ | refine blk_drew ?_ | refine blk_alloc ?_ _)); refine blk_far ?_ NB287_311.out _; (with_reducible repeat (first | refine blk_drewN ?_ _ | refine blk_drew ?_ | refine blk_alloc ?_ _)); refine blk_far ?_ NB287_311.out _; (with_reducible repeat (first | refine blk_drewN ?_ _ | refine blk_drew ?_ | refine blk_alloc ?_ _)); refine blk_far ?_ NB287_311.out _; (with_reducible repeat (first | refine blk_drewN ?_ _ | refine blk_drew ?_ | refine blk_alloc ?_ _)); refine blk_far ?_ NB287_311.out _; (with_reducible repeat (first | refine blk_drewN ?_ _ | refine blk_drew ?_ | refine blk_alloc ?_ _)); exact BK287.out⟩
            have n3_ : Aside0 (((((w218.setCell ⟨gb311, 0, none⟩ (.string t306)).setCell ⟨gb311, 1, none⟩ (.int .i64 t307)).setCell ⟨gb311, 2, none⟩ (.int .i64 t308)).setCell ⟨gb311, 3, none⟩ (.string t309)).heap[gb300]? = some (.cells #[.int .i64 t293, .int .i64 t294, .int .i64 t295, .slice Ao17 t296.length co17] 50 (0, 0))) := ⟨by (with_reducible repeat (first | refine blk_drewN ?_ _ | refine blk_drew ?_ | refine blk_alloc ?_ _)); refine blk_far ?_ NB300_311.out _; (with_reducible repeat (first | refine blk_drewN ?_ _ | refine blk_drew ?_ | refine blk_alloc ?_ _)); refine blk_far ?_ NB300_311.out _; (with_reducible repeat (first | refine blk_drewN ?_ _ | refine blk_drew ?_ | refine blk_alloc ?_ _)); refine blk_far ?_ NB300_311.out _; (with_reducible repeat (first | refine blk_drewN ?_ _ | refine blk_drew ?_ | refine blk_alloc ?_ _)); refine blk_far ?_ NB300_311.out _; (with_reducible repeat (first | refine blk_drewN ?_ _ | refine blk_drew ?_ | refine blk_alloc ?_ _)); exact BK300.out⟩
            have n4_ : Aside0 (((((w218.setCell ⟨gb311, 0, none⟩ (.string t306)).setCell ⟨gb311, 1, none⟩ (.int .i64 t307)).setCell ⟨gb311, 2, none⟩ (.int .i64 t308)).setCell ⟨gb311, 3, none⟩ (.string t309)).heap[gb311]? = some (.cells #[.string t306, .int .i64 t307, .int .i64 t308, .string t309] 34 (0, 0))) := ⟨by (with_reducible repeat (first | refine blk_drewN ?_ _ | refine blk_drew ?_ | refine blk_alloc ?_ _)); refine blk_put (cs := #[.string t306, .int .i64 t307, .int .i64 t308, .string (⟨#[]⟩ : ByteArray)]) ?_ 3 _ rfl; (with_reducible repeat (first | refine blk_drewN ?_ _ | refine blk_drew ?_ | refine blk_alloc ?_ _)); refine blk_put (cs := #[.string t306, .int .i64 t307, .int .i64 0, .string (⟨#[]⟩ : ByteArray)]) ?_ 2 _ rfl; (with_reducible repeat (first | refine blk_drewN ?_ _ | refine blk_drew ?_ | refine blk_alloc ?_ _)); refine blk_put (cs := #[.string t306, .int .i64 0, .int .i64 0, .string (⟨#[]⟩ : ByteArray)]) ?_ 1 _ rfl; (with_reducible repeat (first | refine blk_drewN ?_ _ | refine blk_drew ?_ | refine blk_alloc ?_ _)); refine blk_put (cs := #[.string (⟨#[]⟩ : ByteArray), .int .i64 0, .int .i64 0, .string (⟨#[]⟩ : ByteArray)]) ?_ 0 _ rfl; (with_reducible repeat (first | refine blk_drewN ?_ _ | refine blk_drew ?_ | refine blk_alloc ?_ _)); exact BK311.out⟩
            have n5_ : Aside0 (Below w.heap.size w ((((w218.setCell ⟨gb311, 0, none⟩ (.string t306)).setCell ⟨gb311, 1, none⟩ (.int .i64 t307)).setCell ⟨gb311, 2, none⟩ (.int .i64 t308)).setCell ⟨gb311, 3, none⟩ (.string t309))) := ⟨by repeat (first | (with_reducible first | exact HB.out | apply below_alloc | apply pw_below_drewN | apply below_drew1 | refine below_set ?_ GE287.out | refine below_set ?_ GE300.out | refine below_set ?_ GE311.out) | exact HB.out)⟩
            (try clear HO_9)
            (try clear HO_301003)
            (try clear BK287)
            (try clear BK300)
            (try clear BK311)
            (try clear HB)
            generalize ((((w218.setCell ⟨gb311, 0, none⟩ (.string t306)).setCell ⟨gb311, 1, none⟩ (.int .i64 t307)).setCell ⟨gb311, 2, none⟩ (.int .i64 t308)).setCell ⟨gb311, 3, none⟩ (.string t309)) = w223 at n0_ n1_ n2_ n3_ n4_ n5_ ⊢
            have HO_9 := n0_; have HO_301003 := n1_; have BK287 := n2_; have BK300 := n3_; have BK311 := n4_; have HB := n5_; clear n0_ n1_ n2_ n3_ n4_ n5_
            have n0_ := Aside0.mk (Kd.R_drew HO_9.out)
            have n1_ := Aside0.mk (Kd.R_drew HO_301003.out)
            have n2_ := Aside0.mk (blk_drew BK287.out)
            have n3_ := Aside0.mk (blk_drew BK300.out)
            have n4_ := Aside0.mk (blk_drew BK311.out)
            have n5_ := Aside0.mk (below_drew1 HB.out)
            clear HO_9; clear HO_301003; clear BK287; clear BK300; clear BK311; clear HB; have HO_9 := n0_; have HO_301003 := n1_; have BK287 := n2_; have BK300 := n3_; have BK311 := n4_; have HB := n5_; clear n0_ n1_ n2_ n3_ n4_ n5_
            have p312 : 0 ≤ (x10_1 : Int) := of_decide_eq_true (by first | (with_reducible assumption) | assumption)
            have q312 : x10_1 < (y301.length : Int) := of_decide_eq_true (by first | (with_reducible assumption) | assumption)
            obtain ⟨ad312, e312, hx312_0⟩ := Kd.at_string (Kd.R_reads' HO_9.out).2.2 x10_1 p312 q312
            obtain rfl : ad305 = ad312 := (by injection e312)
            replace p312 := eq_true p312; replace q312 := eq_true q312
            refine start_ (n := 12) (S := fun w' => w'.cell? ⟨gb287, 0, none⟩ = some (.int .i64 a0_0) ∧ w'.cell? ⟨gb287, 1, none⟩ = some (.int .i64 a0_1) ∧ w'.cell? ⟨gb287, 2, none⟩ = some (.int .i64 a0_2) ∧ w'.cell? ⟨gb287, 3, none⟩ = some (.slice A0_3 l0_3.length c0_3) ∧ w'.cell? (ad305.add (x10_1).toNat) = some (.string (rdOf ByteArray.empty y301 x10_1))) (ds := []) #[false, false, false, false, false, false, false, false, false, false, false, false] (by kernel_rfl) rfl rfl ⟨(blk_cell BK287.out 0).trans rfl, (blk_cell BK287.out 1).trans rfl, (blk_cell BK287.out 2).trans rfl, (blk_cell BK287.out 3).trans rfl, hx312_0⟩ (fun hHeld => ?_); refine with_tabW kauditlaw03_RecordGets.tab10 kauditlaw03_RecordGets.bits10 (fun HT_ HW_ => ?_)
            generalize w223.drew = w224 at HO_9 HO_301003 BK287 BK300 BK311 HB hx312_0 hHeld ⊢
            refine pure_ (i := 1) (N := some 46) (v := ?_) (a' := ?_) #[false, true, false, false, false, false, false, false, false, false, false, false] rfl rfl (any_of HT_.out (by kernel_rfl)) (fun _ _ _ h => h) (Or.inl ⟨by rfl, ?_⟩) ?_ ?_
            rotate_left
            · intro w'; go_simp; with_reducible rfl
            rotate_left
            · simp only [Act.put, List.setIfInBounds_toArray, List.set_cons_zero, List.set_cons_succ, i64_w, i32_w]; rfl
            refine pure_ (i := 2) (N := some 47) (v := ?_) (a' := ?_) #[false, true, true, false, false, false, false, false, false, false, false, false] rfl rfl (any_of HT_.out (by kernel_rfl)) (fun _ _ _ h => h) (Or.inl ⟨by rfl, ?_⟩) ?_ ?_
            rotate_left
            · intro w'; go_simp; with_reducible rfl
            rotate_left
            · simp only [Act.put, List.setIfInBounds_toArray, List.set_cons_zero, List.set_cons_succ, i64_w, i32_w]; rfl
            refine pure_ (i := 3) (N := some 48) (v := ?_) (a' := ?_) #[false, true, true, true, false, false, false, false, false, false, false, false] rfl rfl (any_of HT_.out (by kernel_rfl)) (fun _ _ _ h => h) (Or.inl ⟨by rfl, ?_⟩) ?_ ?_
            rotate_left
            · intro w'; go_simp; with_reducible rfl
            rotate_left
            · simp only [Act.put, List.setIfInBounds_toArray, List.set_cons_zero, List.set_cons_succ, i64_w, i32_w]; rfl
            refine take_ (i := 0) (N := some 45) (v := ?_) (a' := ?_) #[true, true, true, true, false, false, false, false, false, false, false, false] rfl rfl (take_ofW HT_.out HW_.out (by kernel_rfl)) (fun _ _ _ h => h) (Or.inl ⟨by rfl, ?_⟩) hHeld ?_ ?_
            rotate_left
            · rintro w' ⟨s0, s1, s2, s3, s4⟩
              go_simp; with_reducible rfl
            rotate_left
            · simp only [Act.put, List.setIfInBounds_toArray, List.set_cons_zero, List.set_cons_succ, i64_w, i32_w]; rfl
            refine take_ (i := 4) (N := some 49) (v := ?_) (a' := ?_) #[true, true, true, true, true, false, false, false, false, false, false, false] rfl rfl (take_ofW HT_.out HW_.out (by kernel_rfl)) (fun _ _ _ h => h) (Or.inl ⟨by rfl, ?_⟩) hHeld ?_ ?_
            rotate_left
            · rintro w' ⟨s0, s1, s2, s3, s4⟩
              go_simp; with_reducible rfl
            rotate_left
            · simp only [Act.put, List.setIfInBounds_toArray, List.set_cons_zero, List.set_cons_succ, i64_w, i32_w]; rfl
            refine join_ (σ := Nat) 2 #[true, true, true, true, true, true, true, true, true, true, false, false] (fun s_ => [(50, .tuple #[.agg #[.string t313, .int .i64 t314, .int .i64 t315, .string t316], .bool t317]), (13, .pointer (some ⟨s_, 0, none⟩)), (44, .tuple #[.agg #[.string t313, .int .i64 t314, .int .i64 t315, .string t316], .bool t317]), (51, .agg #[.string t313, .int .i64 t314, .int .i64 t315, .string t316]), (52, .bool t317)]) (fun s_ w' => (w'.cell? ⟨gb287, 0, none⟩ = some (.int .i64 a0_0) ∧ w'.cell? ⟨gb287, 1, none⟩ = some (.int .i64 a0_1) ∧ w'.cell? ⟨gb287, 2, none⟩ = some (.int .i64 a0_2) ∧ w'.cell? ⟨gb287, 3, none⟩ = some (.slice A0_3 l0_3.length c0_3) ∧ w'.cell? (ad305.add (x10_1).toNat) = some (.string (rdOf ByteArray.empty y301 x10_1))) ∧ (Kd.R k34 34 w' w.heap.size (fun k_ => k_ ≠ gb311 ∧ k_ ≠ s_) (.slice Ao17 t296.length co17) t296) ∧ (Kd.R Kd.string 9 w' w.heap.size (fun _ => True) (.slice (some ad305) y301.length co214) y301) ∧ (w'.heap[gb287]? = some (.cells #[.int .i64 a0_0, .int .i64 a0_1, .int .i64 a0_2, .slice A0_3 l0_3.length c0_3] 50 (0, 0))) ∧ (w'.heap[gb300]? = some (.cells #[.int .i64 t293, .int .i64 t294, .int .i64 t295, .slice Ao17 t296.length co17] 50 (0, 0))) ∧ (w'.heap[gb311]? = some (.cells #[.string t306, .int .i64 t307, .int .i64 t308, .string t309] 34 (0, 0))) ∧ (w'.heap[s_]? = some (.cells #[.string (⟨#[]⟩ : ByteArray), .int .i64 0, .int .i64 0, .string (⟨#[]⟩ : ByteArray)] 34 (0, 0))) ∧ (w.heap.size ≤ s_) ∧ (w.heap.size ≤ s_) ∧ (gb287 ≠ s_) ∧ (s_ ≠ gb287) ∧ (gb300 ≠ s_) ∧ (s_ ≠ gb300) ∧ (gb311 ≠ s_) ∧ (s_ ≠ gb311) ∧ (Below w.heap.size w w')) ?_ ?_
            rotate_left
            · intro hCont
              refine two_ (i := 5) (j := 9) (Ni := some 50) (Nj := some 13) #[true, true, true, true, true, true, false, false, false, false, false, false] #[true, true, true, true, true, false, false, false, false, true, false, false] rfl rfl rfl rfl (two_of HT_.out (by kernel_rfl)) (by decide) (by decide) (fun K hK => ?_) (fun K hK => ?_)
              · skip
                refine goes_ Tryd.func39 (by kernel_rfl) rfl #[.agg #[.int .i64 a0_0, .int .i64 a0_1, .int .i64 a0_2, .slice A0_3 l0_3.length c0_3], .string (rdOf ByteArray.empty y301 x10_1)] (by rfl) rfl rfl (by (try simp only [List.map_toArray, List.map_cons, List.map_nil]); first | done | rfl | (simp only [List.length_drop, List.length_take]; rfl)) ?_
                with_reducible refine (kauditref03_Get.calls k1 a0_0 a0_1 a0_2 _ _ l0_3 (rdOf ByteArray.empty y301 x10_1) t313 t314 t315 t316 t317 _ ?side1 ?side2 A23.out).mono ?_
                (case side1 => repeat (first | exact (Kd.C_below HR0_3.out HB.out) | (with_reducible refine Kd.C_alloc ?_ _) | (with_reducible refine Kd.C_drewN ?_ _) | (with_reducible refine Kd.C_drew ?_)))
                (case side2 => exact HC0_3.out)
                rintro e w225 ⟨rfl, hb⟩
                have HS4_ := (hb.cell (World.block_lt_of_cell? _ _ (hHeld.2.2.2.2))).trans (hHeld.2.2.2.2)
                refine ⟨_, rfl, ?_⟩
                have n0_ := Aside0.mk (Kd.R_below (by (with_reducible repeat (first | apply Kd.R_alloc | apply Kd.R_drewN | apply Kd.R_drew)); exact HO_9.out) hb)
                have n1_ := Aside0.mk (Kd.R_below (by (with_reducible repeat (first | apply Kd.R_alloc | apply Kd.R_drewN | apply Kd.R_drew)); exact HO_301003.out) hb)
                have n2_ := Aside0.mk (blk_below (g := gb287) (o := .cells #[.int .i64 a0_0, .int .i64 a0_1, .int .i64 a0_2, .slice A0_3 l0_3.length c0_3] 50 (0, 0)) (by (with_reducible repeat (first | refine blk_drewN ?_ _ | refine blk_drew ?_ | refine blk_alloc ?_ _)); exact BK287.out) hb)
                have n3_ := Aside0.mk (blk_below (g := gb300) (o := .cells #[.int .i64 t293, .int .i64 t294, .int .i64 t295, .slice Ao17 t296.length co17] 50 (0, 0)) (by (with_reducible repeat (first | refine blk_drewN ?_ _ | refine blk_drew ?_ | refine blk_alloc ?_ _)); exact BK300.out) hb)
                have n4_ := Aside0.mk (blk_below (g := gb311) (o := .cells #[.string t306, .int .i64 t307, .int .i64 t308, .string t309] 34 (0, 0)) (by (with_reducible repeat (first | refine blk_drewN ?_ _ | refine blk_drew ?_ | refine blk_alloc ?_ _)); exact BK311.out) hb)
                have n5_ := Aside0.mk (below_step (by repeat (first | (with_reducible first | exact HB.out | apply below_alloc | apply pw_below_drewN | apply below_drew1 | refine below_set ?_ GE287.out | refine below_set ?_ GE300.out | refine below_set ?_ GE311.out) | exact HB.out)) hb)
                clear HO_9; clear HO_301003; clear BK287; clear BK300; clear BK311; clear HB; have HO_9 := n0_; have HO_301003 := n1_; have BK287 := n2_; have BK300 := n3_; have BK311 := n4_; have HB := n5_; clear n0_ n1_ n2_ n3_ n4_ n5_
                (try clear hb)
                (try clear hb2)
                (try clear hk)
                (try clear hi)
                refine hK.out _ _ ⟨(blk_cell BK287.out 0).trans rfl, (blk_cell BK287.out 1).trans rfl, (blk_cell BK287.out 2).trans rfl, (blk_cell BK287.out 3).trans rfl, HS4_⟩ (fun hHeld => ?_)
                clear hK K
                refine norm_ (a' := ?_) ?_ ?_
                rotate_left
                · show Act.put _ (some 50) _ = _
                  simp only [Act.put, List.setIfInBounds_toArray, List.set_cons_zero, List.set_cons_succ, i64_w, i32_w]; rfl
                refine pure_ (i := 6) (N := some 44) (v := ?_) (a' := ?_) #[true, true, true, true, true, true, true, false, false, false, false, false] rfl rfl (any_of HT_.out (by kernel_rfl)) (fun _ _ _ h => h) (Or.inl ⟨by rfl, ?_⟩) ?_ ?_
                rotate_left
                · intro w'; go_simp; with_reducible rfl
                rotate_left
                · simp only [Act.put, List.setIfInBounds_toArray, List.set_cons_zero, List.set_cons_succ, i64_w, i32_w]; rfl
                refine pure_ (i := 7) (N := some 51) (v := ?_) (a' := ?_) #[true, true, true, true, true, true, true, true, false, false, false, false] rfl rfl (any_of HT_.out (by kernel_rfl)) (fun _ _ _ h => h) (Or.inl ⟨by rfl, ?_⟩) ?_ ?_
                rotate_left
                · intro w'; go_simp; with_reducible rfl
                rotate_left
                · simp only [Act.put, List.setIfInBounds_toArray, List.set_cons_zero, List.set_cons_succ, i64_w, i32_w]; rfl
                refine pure_ (i := 8) (N := some 52) (v := ?_) (a' := ?_) #[true, true, true, true, true, true, true, true, true, false, false, false] rfl rfl (any_of HT_.out (by kernel_rfl)) (fun _ _ _ h => h) (Or.inl ⟨by rfl, ?_⟩) ?_ ?_
                rotate_left
                · intro w'; go_simp; with_reducible rfl
                rotate_left
                · simp only [Act.put, List.setIfInBounds_toArray, List.set_cons_zero, List.set_cons_succ, i64_w, i32_w]; rfl
                refine one_ (i := 9) (N := some 13) #[true, true, true, true, true, true, true, true, true, true, false, false] rfl rfl (one_of HT_.out (by kernel_rfl)) (by decide) (fun K hK => ?_)
                refine box_step ?hg (N := 13) ?hd (cs := #[.string (⟨#[]⟩ : ByteArray), .int .i64 0, .int .i64 0, .string (⟨#[]⟩ : ByteArray)]) (t := 34) ?hr ?_; (case hd => rfl); (case hg => rfl); (case hr => first | (go_simp; done) | (go_simp; rfl))
                intro gb318 hg w226 hbox hb
                have HS4_ := (hb.cell (World.block_lt_of_cell? _ _ (hHeld.2.2.2.2))).trans (hHeld.2.2.2.2)
                have n0_ := Aside0.mk (Kd.R_below (by (with_reducible repeat (first | apply Kd.R_alloc | apply Kd.R_drewN | apply Kd.R_drew)); exact HO_9.out) hb)
                have n1_ := Aside0.mk (Kd.R_below (Kd.R_elderB (by (with_reducible repeat (first | apply Kd.R_alloc | apply Kd.R_drewN | apply Kd.R_drew)); exact HO_301003.out) gb318 (Nat.le_of_eq hg.symm)) hb)
                have n2_ := Aside0.mk (blk_below (g := gb287) (o := .cells #[.int .i64 a0_0, .int .i64 a0_1, .int .i64 a0_2, .slice A0_3 l0_3.length c0_3] 50 (0, 0)) (by (with_reducible repeat (first | refine blk_drewN ?_ _ | refine blk_drew ?_ | refine blk_alloc ?_ _)); exact BK287.out) hb)
                have n3_ := Aside0.mk (blk_below (g := gb300) (o := .cells #[.int .i64 t293, .int .i64 t294, .int .i64 t295, .slice Ao17 t296.length co17] 50 (0, 0)) (by (with_reducible repeat (first | refine blk_drewN ?_ _ | refine blk_drew ?_ | refine blk_alloc ?_ _)); exact BK300.out) hb)
                have n4_ := Aside0.mk (blk_below (g := gb311) (o := .cells #[.string t306, .int .i64 t307, .int .i64 t308, .string t309] 34 (0, 0)) (by (with_reducible repeat (first | refine blk_drewN ?_ _ | refine blk_drew ?_ | refine blk_alloc ?_ _)); exact BK311.out) hb)
                have n5_ := Aside0.mk (below_step (by repeat (first | (with_reducible first | exact HB.out | apply below_alloc | apply pw_below_drewN | apply below_drew1 | refine below_set ?_ GE287.out | refine below_set ?_ GE300.out | refine below_set ?_ GE311.out) | exact HB.out)) hb)
                have n6_ := Aside0.mk (hbox)
                have n7_ := Aside0.mk ((by rw [hg]; exact (below_size (by repeat (first | (with_reducible first | exact HB.out | apply below_alloc | apply pw_below_drewN | apply below_drew1 | refine below_set ?_ GE287.out | refine below_set ?_ GE300.out | refine below_set ?_ GE311.out) | exact HB.out))) : w.heap.size ≤ gb318))
                have n8_ := Aside0.mk ((by rw [hg]; exact (below_size (by repeat (first | (with_reducible first | exact HB.out | apply below_alloc | apply pw_below_drewN | apply below_drew1 | refine below_set ?_ GE287.out | refine below_set ?_ GE300.out | refine below_set ?_ GE311.out) | exact HB.out))) : w.heap.size ≤ gb318))
                have n9_ := Aside0.mk ((by rw [hg]; exact Nat.ne_of_lt (blk_lt (g := gb287) (o := .cells #[.int .i64 a0_0, .int .i64 a0_1, .int .i64 a0_2, .slice A0_3 l0_3.length c0_3] 50 (0, 0)) (by (with_reducible repeat (first | refine blk_drewN ?_ _ | refine blk_drew ?_ | refine blk_alloc ?_ _)); exact BK287.out)) : gb287 ≠ gb318))
                have n10_ := Aside0.mk ((by rw [hg]; exact Nat.ne_of_gt (blk_lt (g := gb287) (o := .cells #[.int .i64 a0_0, .int .i64 a0_1, .int .i64 a0_2, .slice A0_3 l0_3.length c0_3] 50 (0, 0)) (by (with_reducible repeat (first | refine blk_drewN ?_ _ | refine blk_drew ?_ | refine blk_alloc ?_ _)); exact BK287.out)) : gb318 ≠ gb287))
                have n11_ := Aside0.mk ((by rw [hg]; exact Nat.ne_of_lt (blk_lt (g := gb300) (o := .cells #[.int .i64 t293, .int .i64 t294, .int .i64 t295, .slice Ao17 t296.length co17] 50 (0, 0)) (by (with_reducible repeat (first | refine blk_drewN ?_ _ | refine blk_drew ?_ | refine blk_alloc ?_ _)); exact BK300.out)) : gb300 ≠ gb318))
                have n12_ := Aside0.mk ((by rw [hg]; exact Nat.ne_of_gt (blk_lt (g := gb300) (o := .cells #[.int .i64 t293, .int .i64 t294, .int .i64 t295, .slice Ao17 t296.length co17] 50 (0, 0)) (by (with_reducible repeat (first | refine blk_drewN ?_ _ | refine blk_drew ?_ | refine blk_alloc ?_ _)); exact BK300.out)) : gb318 ≠ gb300))
                have n13_ := Aside0.mk ((by rw [hg]; exact Nat.ne_of_lt (blk_lt (g := gb311) (o := .cells #[.string t306, .int .i64 t307, .int .i64 t308, .string t309] 34 (0, 0)) (by (with_reducible repeat (first | refine blk_drewN ?_ _ | refine blk_drew ?_ | refine blk_alloc ?_ _)); exact BK311.out)) : gb311 ≠ gb318))
                have n14_ := Aside0.mk ((by rw [hg]; exact Nat.ne_of_gt (blk_lt (g := gb311) (o := .cells #[.string t306, .int .i64 t307, .int .i64 t308, .string t309] 34 (0, 0)) (by (with_reducible repeat (first | refine blk_drewN ?_ _ | refine blk_drew ?_ | refine blk_alloc ?_ _)); exact BK311.out)) : gb318 ≠ gb311))
                clear HO_9; clear HO_301003; clear BK287; clear BK300; clear BK311; clear HB; have HO_9 := n0_; have HO_301003 := n1_; have BK287 := n2_; have BK300 := n3_; have BK311 := n4_; have HB := n5_; have BK318 := n6_; have GW318 := n7_; have GE318 := n8_; have NB287_318 := n9_; have NB318_287 := n10_; have NB300_318 := n11_; have NB318_300 := n12_; have NB311_318 := n13_; have NB318_311 := n14_; clear n0_ n1_ n2_ n3_ n4_ n5_ n6_ n7_ n8_ n9_ n10_ n11_ n12_ n13_ n14_; clear hb hbox hg
                refine hK.out _ _ ⟨(blk_cell BK287.out 0).trans rfl, (blk_cell BK287.out 1).trans rfl, (blk_cell BK287.out 2).trans rfl, (blk_cell BK287.out 3).trans rfl, HS4_⟩ (fun hHeld => ?_)
                clear hK K
                refine norm_ (a' := ?_) ?_ ?_
                rotate_left
                · show Act.put _ (some 13) _ = _
                  simp only [Act.put, List.setIfInBounds_toArray, List.set_cons_zero, List.set_cons_succ, i64_w, i32_w]; rfl
                exact norm_ (by simp only [putAll, Act.put, List.setIfInBounds_toArray, List.set_cons_zero, List.set_cons_succ]) (hCont (gb318) _ ⟨hHeld, (by (with_reducible repeat (first | apply Kd.R_alloc | apply Kd.R_drewN | apply Kd.R_drew)); exact HO_301003.out), (by (with_reducible repeat (first | apply Kd.R_alloc | apply Kd.R_drewN | apply Kd.R_drew)); exact HO_9.out), (by (with_reducible repeat (first | refine blk_drewN ?_ _ | refine blk_drew ?_ | refine blk_alloc ?_ _)); exact BK287.out), (by (with_reducible repeat (first | refine blk_drewN ?_ _ | refine blk_drew ?_ | refine blk_alloc ?_ _)); exact BK300.out), (by (with_reducible repeat (first | refine blk_drewN ?_ _ | refine blk_drew ?_ | refine blk_alloc ?_ _)); exact BK311.out), (by (with_reducible repeat (first | refine blk_drewN ?_ _ | refine blk_drew ?_ | refine blk_alloc ?_ _)); exact BK318.out), GW318.out, GE318.out, NB287_318.out, NB318_287.out, NB300_318.out, NB318_300.out, NB311_318.out, NB318_311.out, (by repeat (first | (with_reducible first | exact HB.out | apply below_alloc | apply pw_below_drewN | apply below_drew1 | refine below_set ?_ GE287.out | refine below_set ?_ GE300.out | refine below_set ?_ GE311.out | refine below_set ?_ GE318.out) | exact HB.out))⟩)
              · skip
                refine box_step ?hg (N := 13) ?hd (cs := #[.string (⟨#[]⟩ : ByteArray), .int .i64 0, .int .i64 0, .string (⟨#[]⟩ : ByteArray)]) (t := 34) ?hr ?_; (case hd => rfl); (case hg => rfl); (case hr => first | (go_simp; done) | (go_simp; rfl))
                intro gb318 hg w225 hbox hb
                have HS4_ := (hb.cell (World.block_lt_of_cell? _ _ (hHeld.2.2.2.2))).trans (hHeld.2.2.2.2)
                have n0_ := Aside0.mk (Kd.R_below (by (with_reducible repeat (first | apply Kd.R_alloc | apply Kd.R_drewN | apply Kd.R_drew)); exact HO_9.out) hb)
                have n1_ := Aside0.mk (Kd.R_below (Kd.R_elderB (by (with_reducible repeat (first | apply Kd.R_alloc | apply Kd.R_drewN | apply Kd.R_drew)); exact HO_301003.out) gb318 (Nat.le_of_eq hg.symm)) hb)
                have n2_ := Aside0.mk (blk_below (g := gb287) (o := .cells #[.int .i64 a0_0, .int .i64 a0_1, .int .i64 a0_2, .slice A0_3 l0_3.length c0_3] 50 (0, 0)) (by (with_reducible repeat (first | refine blk_drewN ?_ _ | refine blk_drew ?_ | refine blk_alloc ?_ _)); exact BK287.out) hb)
                have n3_ := Aside0.mk (blk_below (g := gb300) (o := .cells #[.int .i64 t293, .int .i64 t294, .int .i64 t295, .slice Ao17 t296.length co17] 50 (0, 0)) (by (with_reducible repeat (first | refine blk_drewN ?_ _ | refine blk_drew ?_ | refine blk_alloc ?_ _)); exact BK300.out) hb)
                have n4_ := Aside0.mk (blk_below (g := gb311) (o := .cells #[.string t306, .int .i64 t307, .int .i64 t308, .string t309] 34 (0, 0)) (by (with_reducible repeat (first | refine blk_drewN ?_ _ | refine blk_drew ?_ | refine blk_alloc ?_ _)); exact BK311.out) hb)
                have n5_ := Aside0.mk (below_step (by repeat (first | (with_reducible first | exact HB.out | apply below_alloc | apply pw_below_drewN | apply below_drew1 | refine below_set ?_ GE287.out | refine below_set ?_ GE300.out | refine below_set ?_ GE311.out) | exact HB.out)) hb)
                have n6_ := Aside0.mk (hbox)
                have n7_ := Aside0.mk ((by rw [hg]; exact (below_size (by repeat (first | (with_reducible first | exact HB.out | apply below_alloc | apply pw_below_drewN | apply below_drew1 | refine below_set ?_ GE287.out | refine below_set ?_ GE300.out | refine below_set ?_ GE311.out) | exact HB.out))) : w.heap.size ≤ gb318))
                have n8_ := Aside0.mk ((by rw [hg]; exact (below_size (by repeat (first | (with_reducible first | exact HB.out | apply below_alloc | apply pw_below_drewN | apply below_drew1 | refine below_set ?_ GE287.out | refine below_set ?_ GE300.out | refine below_set ?_ GE311.out) | exact HB.out))) : w.heap.size ≤ gb318))
                have n9_ := Aside0.mk ((by rw [hg]; exact Nat.ne_of_lt (blk_lt (g := gb287) (o := .cells #[.int .i64 a0_0, .int .i64 a0_1, .int .i64 a0_2, .slice A0_3 l0_3.length c0_3] 50 (0, 0)) (by (with_reducible repeat (first | refine blk_drewN ?_ _ | refine blk_drew ?_ | refine blk_alloc ?_ _)); exact BK287.out)) : gb287 ≠ gb318))
                have n10_ := Aside0.mk ((by rw [hg]; exact Nat.ne_of_gt (blk_lt (g := gb287) (o := .cells #[.int .i64 a0_0, .int .i64 a0_1, .int .i64 a0_2, .slice A0_3 l0_3.length c0_3] 50 (0, 0)) (by (with_reducible repeat (first | refine blk_drewN ?_ _ | refine blk_drew ?_ | refine blk_alloc ?_ _)); exact BK287.out)) : gb318 ≠ gb287))
                have n11_ := Aside0.mk ((by rw [hg]; exact Nat.ne_of_lt (blk_lt (g := gb300) (o := .cells #[.int .i64 t293, .int .i64 t294, .int .i64 t295, .slice Ao17 t296.length co17] 50 (0, 0)) (by (with_reducible repeat (first | refine blk_drewN ?_ _ | refine blk_drew ?_ | refine blk_alloc ?_ _)); exact BK300.out)) : gb300 ≠ gb318))
                have n12_ := Aside0.mk ((by rw [hg]; exact Nat.ne_of_gt (blk_lt (g := gb300) (o := .cells #[.int .i64 t293, .int .i64 t294, .int .i64 t295, .slice Ao17 t296.length co17] 50 (0, 0)) (by (with_reducible repeat (first | refine blk_drewN ?_ _ | refine blk_drew ?_ | refine blk_alloc ?_ _)); exact BK300.out)) : gb318 ≠ gb300))
                have n13_ := Aside0.mk ((by rw [hg]; exact Nat.ne_of_lt (blk_lt (g := gb311) (o := .cells #[.string t306, .int .i64 t307, .int .i64 t308, .string t309] 34 (0, 0)) (by (with_reducible repeat (first | refine blk_drewN ?_ _ | refine blk_drew ?_ | refine blk_alloc ?_ _)); exact BK311.out)) : gb311 ≠ gb318))
                have n14_ := Aside0.mk ((by rw [hg]; exact Nat.ne_of_gt (blk_lt (g := gb311) (o := .cells #[.string t306, .int .i64 t307, .int .i64 t308, .string t309] 34 (0, 0)) (by (with_reducible repeat (first | refine blk_drewN ?_ _ | refine blk_drew ?_ | refine blk_alloc ?_ _)); exact BK311.out)) : gb318 ≠ gb311))
                clear HO_9; clear HO_301003; clear BK287; clear BK300; clear BK311; clear HB; have HO_9 := n0_; have HO_301003 := n1_; have BK287 := n2_; have BK300 := n3_; have BK311 := n4_; have HB := n5_; have BK318 := n6_; have GW318 := n7_; have GE318 := n8_; have NB287_318 := n9_; have NB318_287 := n10_; have NB300_318 := n11_; have NB318_300 := n12_; have NB311_318 := n13_; have NB318_311 := n14_; clear n0_ n1_ n2_ n3_ n4_ n5_ n6_ n7_ n8_ n9_ n10_ n11_ n12_ n13_ n14_; clear hb hbox hg
                refine hK.out _ _ ⟨(blk_cell BK287.out 0).trans rfl, (blk_cell BK287.out 1).trans rfl, (blk_cell BK287.out 2).trans rfl, (blk_cell BK287.out 3).trans rfl, HS4_⟩ (fun hHeld => ?_)
                clear hK K
                refine norm_ (a' := ?_) ?_ ?_
                rotate_left
                · show Act.put _ (some 13) _ = _
                  simp only [Act.put, List.setIfInBounds_toArray, List.set_cons_zero, List.set_cons_succ, i64_w, i32_w]; rfl
                refine one_ (i := 5) (N := some 50) #[true, true, true, true, true, true, false, false, false, true, false, false] rfl rfl (one_of HT_.out (by kernel_rfl)) (by decide) (fun K hK => ?_)
                refine goes_ Tryd.func39 (by kernel_rfl) rfl #[.agg #[.int .i64 a0_0, .int .i64 a0_1, .int .i64 a0_2, .slice A0_3 l0_3.length c0_3], .string (rdOf ByteArray.empty y301 x10_1)] (by rfl) rfl rfl (by (try simp only [List.map_toArray, List.map_cons, List.map_nil]); first | done | rfl | (simp only [List.length_drop, List.length_take]; rfl)) ?_
                with_reducible refine (kauditref03_Get.calls k1 a0_0 a0_1 a0_2 _ _ l0_3 (rdOf ByteArray.empty y301 x10_1) t313 t314 t315 t316 t317 _ ?side1 ?side2 A23.out).mono ?_
                (case side1 => repeat (first | exact (Kd.C_below HR0_3.out HB.out) | (with_reducible refine Kd.C_alloc ?_ _) | (with_reducible refine Kd.C_drewN ?_ _) | (with_reducible refine Kd.C_drew ?_)))
                (case side2 => exact HC0_3.out)
                rintro e w226 ⟨rfl, hb⟩
                have HS4_ := (hb.cell (World.block_lt_of_cell? _ _ (hHeld.2.2.2.2))).trans (hHeld.2.2.2.2)
                refine ⟨_, rfl, ?_⟩
                have n0_ := Aside0.mk (Kd.R_below (by (with_reducible repeat (first | apply Kd.R_alloc | apply Kd.R_drewN | apply Kd.R_drew)); exact HO_9.out) hb)
                have n1_ := Aside0.mk (Kd.R_below (by (with_reducible repeat (first | apply Kd.R_alloc | apply Kd.R_drewN | apply Kd.R_drew)); exact HO_301003.out) hb)
                have n2_ := Aside0.mk (blk_below (g := gb287) (o := .cells #[.int .i64 a0_0, .int .i64 a0_1, .int .i64 a0_2, .slice A0_3 l0_3.length c0_3] 50 (0, 0)) (by (with_reducible repeat (first | refine blk_drewN ?_ _ | refine blk_drew ?_ | refine blk_alloc ?_ _)); exact BK287.out) hb)
                have n3_ := Aside0.mk (blk_below (g := gb300) (o := .cells #[.int .i64 t293, .int .i64 t294, .int .i64 t295, .slice Ao17 t296.length co17] 50 (0, 0)) (by (with_reducible repeat (first | refine blk_drewN ?_ _ | refine blk_drew ?_ | refine blk_alloc ?_ _)); exact BK300.out) hb)
                have n4_ := Aside0.mk (blk_below (g := gb311) (o := .cells #[.string t306, .int .i64 t307, .int .i64 t308, .string t309] 34 (0, 0)) (by (with_reducible repeat (first | refine blk_drewN ?_ _ | refine blk_drew ?_ | refine blk_alloc ?_ _)); exact BK311.out) hb)
                have n5_ := Aside0.mk (blk_below (g := gb318) (o := .cells #[.string (⟨#[]⟩ : ByteArray), .int .i64 0, .int .i64 0, .string (⟨#[]⟩ : ByteArray)] 34 (0, 0)) (by (with_reducible repeat (first | refine blk_drewN ?_ _ | refine blk_drew ?_ | refine blk_alloc ?_ _)); exact BK318.out) hb)
                have n6_ := Aside0.mk (below_step (by repeat (first | (with_reducible first | exact HB.out | apply below_alloc | apply pw_below_drewN | apply below_drew1 | refine below_set ?_ GE287.out | refine below_set ?_ GE300.out | refine below_set ?_ GE311.out | refine below_set ?_ GE318.out) | exact HB.out)) hb)
                clear HO_9; clear HO_301003; clear BK287; clear BK300; clear BK311; clear BK318; clear HB; have HO_9 := n0_; have HO_301003 := n1_; have BK287 := n2_; have BK300 := n3_; have BK311 := n4_; have BK318 := n5_; have HB := n6_; clear n0_ n1_ n2_ n3_ n4_ n5_ n6_
                (try clear hb)
                (try clear hb2)
                (try clear hk)
                (try clear hi)
                refine hK.out _ _ ⟨(blk_cell BK287.out 0).trans rfl, (blk_cell BK287.out 1).trans rfl, (blk_cell BK287.out 2).trans rfl, (blk_cell BK287.out 3).trans rfl, HS4_⟩ (fun hHeld => ?_)
                clear hK K
                refine norm_ (a' := ?_) ?_ ?_
                rotate_left
                · show Act.put _ (some 50) _ = _
                  simp only [Act.put, List.setIfInBounds_toArray, List.set_cons_zero, List.set_cons_succ, i64_w, i32_w]; rfl
                refine pure_ (i := 6) (N := some 44) (v := ?_) (a' := ?_) #[true, true, true, true, true, true, true, false, false, true, false, false] rfl rfl (any_of HT_.out (by kernel_rfl)) (fun _ _ _ h => h) (Or.inl ⟨by rfl, ?_⟩) ?_ ?_
                rotate_left
                · intro w'; go_simp; with_reducible rfl
                rotate_left
                · simp only [Act.put, List.setIfInBounds_toArray, List.set_cons_zero, List.set_cons_succ, i64_w, i32_w]; rfl
                refine pure_ (i := 7) (N := some 51) (v := ?_) (a' := ?_) #[true, true, true, true, true, true, true, true, false, true, false, false] rfl rfl (any_of HT_.out (by kernel_rfl)) (fun _ _ _ h => h) (Or.inl ⟨by rfl, ?_⟩) ?_ ?_
                rotate_left
                · intro w'; go_simp; with_reducible rfl
                rotate_left
                · simp only [Act.put, List.setIfInBounds_toArray, List.set_cons_zero, List.set_cons_succ, i64_w, i32_w]; rfl
                refine pure_ (i := 8) (N := some 52) (v := ?_) (a' := ?_) #[true, true, true, true, true, true, true, true, true, true, false, false] rfl rfl (any_of HT_.out (by kernel_rfl)) (fun _ _ _ h => h) (Or.inl ⟨by rfl, ?_⟩) ?_ ?_
                rotate_left
                · intro w'; go_simp; with_reducible rfl
                rotate_left
                · simp only [Act.put, List.setIfInBounds_toArray, List.set_cons_zero, List.set_cons_succ, i64_w, i32_w]; rfl
                exact norm_ (by simp only [putAll, Act.put, List.setIfInBounds_toArray, List.set_cons_zero, List.set_cons_succ]) (hCont (gb318) _ ⟨hHeld, (by (with_reducible repeat (first | apply Kd.R_alloc | apply Kd.R_drewN | apply Kd.R_drew)); exact HO_301003.out), (by (with_reducible repeat (first | apply Kd.R_alloc | apply Kd.R_drewN | apply Kd.R_drew)); exact HO_9.out), (by (with_reducible repeat (first | refine blk_drewN ?_ _ | refine blk_drew ?_ | refine blk_alloc ?_ _)); exact BK287.out), (by (with_reducible repeat (first | refine blk_drewN ?_ _ | refine blk_drew ?_ | refine blk_alloc ?_ _)); exact BK300.out), (by (with_reducible repeat (first | refine blk_drewN ?_ _ | refine blk_drew ?_ | refine blk_alloc ?_ _)); exact BK311.out), (by (with_reducible repeat (first | refine blk_drewN ?_ _ | refine blk_drew ?_ | refine blk_alloc ?_ _)); exact BK318.out), GW318.out, GE318.out, NB287_318.out, NB318_287.out, NB300_318.out, NB318_300.out, NB311_318.out, NB318_311.out, (by repeat (first | (with_reducible first | exact HB.out | apply below_alloc | apply pw_below_drewN | apply below_drew1 | refine below_set ?_ GE287.out | refine below_set ?_ GE300.out | refine below_set ?_ GE311.out | refine below_set ?_ GE318.out) | exact HB.out))⟩)
            rintro gb318 w227 ⟨hS_, h0_, h1_, h2_, h3_, h4_, h5_, h6_, h7_, h8_, h9_, h10_, h11_, h12_, h13_, h14_⟩
            have n0_ : Aside0 (Kd.R k34 34 w227 w.heap.size (fun k_ => k_ ≠ gb311 ∧ k_ ≠ gb318) (.slice Ao17 t296.length co17) t296) := ⟨h0_⟩
            have n1_ : Aside0 (Kd.R Kd.string 9 w227 w.heap.size (fun _ => True) (.slice (some ad305) y301.length co214) y301) := ⟨h1_⟩
            have n2_ : Aside0 (w227.heap[gb287]? = some (.cells #[.int .i64 a0_0, .int .i64 a0_1, .int .i64 a0_2, .slice A0_3 l0_3.length c0_3] 50 (0, 0))) := ⟨h2_⟩
            have n3_ : Aside0 (w227.heap[gb300]? = some (.cells #[.int .i64 t293, .int .i64 t294, .int .i64 t295, .slice Ao17 t296.length co17] 50 (0, 0))) := ⟨h3_⟩
            have n4_ : Aside0 (w227.heap[gb311]? = some (.cells #[.string t306, .int .i64 t307, .int .i64 t308, .string t309] 34 (0, 0))) := ⟨h4_⟩
            have n5_ : Aside0 (w227.heap[gb318]? = some (.cells #[.string (⟨#[]⟩ : ByteArray), .int .i64 0, .int .i64 0, .string (⟨#[]⟩ : ByteArray)] 34 (0, 0))) := ⟨h5_⟩
            have n6_ : Aside0 (w.heap.size ≤ gb318) := ⟨h6_⟩
            have n7_ : Aside0 (w.heap.size ≤ gb318) := ⟨h7_⟩
            have n8_ : Aside0 (gb287 ≠ gb318) := ⟨h8_⟩
            have n9_ : Aside0 (gb318 ≠ gb287) := ⟨h9_⟩
            have n10_ : Aside0 (gb300 ≠ gb318) := ⟨h10_⟩
            have n11_ : Aside0 (gb318 ≠ gb300) := ⟨h11_⟩
            have n12_ : Aside0 (gb311 ≠ gb318) := ⟨h12_⟩
            have n13_ : Aside0 (gb318 ≠ gb311) := ⟨h13_⟩
            have n14_ : Aside0 (Below w.heap.size w w227) := ⟨h14_⟩
            clear HO_9; clear HO_301003; clear BK287; clear BK300; clear BK311; clear HB; clear h0_ h1_ h2_ h3_ h4_ h5_ h6_ h7_ h8_ h9_ h10_ h11_ h12_ h13_ h14_; have HO_301003 := n0_; have HO_9 := n1_; have BK287 := n2_; have BK300 := n3_; have BK311 := n4_; have BK318 := n5_; have GW318 := n6_; have GE318 := n7_; have NB287_318 := n8_; have NB318_287 := n9_; have NB300_318 := n10_; have NB318_300 := n11_; have NB311_318 := n12_; have NB318_311 := n13_; have HB := n14_; clear n0_ n1_ n2_ n3_ n4_ n5_ n6_ n7_ n8_ n9_ n10_ n11_ n12_ n13_ n14_
            have hHeld : w227.cell? ⟨gb287, 0, none⟩ = some (.int .i64 a0_0) ∧ w227.cell? ⟨gb287, 1, none⟩ = some (.int .i64 a0_1) ∧ w227.cell? ⟨gb287, 2, none⟩ = some (.int .i64 a0_2) ∧ w227.cell? ⟨gb287, 3, none⟩ = some (.slice A0_3 l0_3.length c0_3) ∧ w227.cell? (ad305.add (x10_1).toNat) = some (.string (rdOf ByteArray.empty y301 x10_1)) := hS_
            refine norm_ (a' := ?_) ?_ ?_
            rotate_left
            · simp only [putAll, Act.put, List.setIfInBounds_toArray, List.set_cons_zero, List.set_cons_succ]; rfl
            refine one_ (i := 10) (N := none) #[true, true, true, true, true, true, true, true, true, true, true, false] rfl rfl (one_of HT_.out (by kernel_rfl)) (by decide) (fun K hK => ?_)
            have hs228 : w227.cell? ⟨gb318, 0, none⟩ = some (.string (⟨#[]⟩ : ByteArray)) := (blk_cell BK318.out 0).trans rfl
            have hfs228 := blk_frozen BK318.out 0
            have hns228_0 := NB287_318.out; have hns228_1 := NB300_318.out; have hns228_2 := NB311_318.out; have hms228_0 := NB318_287.out; have hms228_1 := NB318_300.out; have hms228_2 := NB318_311.out
            have hs229 : w227.cell? ⟨gb318, 1, none⟩ = some (.int .i64 0) := (blk_cell BK318.out 1).trans rfl
            have hfs229 := blk_frozen BK318.out 1
            have hns229_0 := NB287_318.out; have hns229_1 := NB300_318.out; have hns229_2 := NB311_318.out; have hms229_0 := NB318_287.out; have hms229_1 := NB318_300.out; have hms229_2 := NB318_311.out
            have hs230 : w227.cell? ⟨gb318, 2, none⟩ = some (.int .i64 0) := (blk_cell BK318.out 2).trans rfl
            have hfs230 := blk_frozen BK318.out 2
            have hns230_0 := NB287_318.out; have hns230_1 := NB300_318.out; have hns230_2 := NB311_318.out; have hms230_0 := NB318_287.out; have hms230_1 := NB318_300.out; have hms230_2 := NB318_311.out
            have hs231 : w227.cell? ⟨gb318, 3, none⟩ = some (.string (⟨#[]⟩ : ByteArray)) := (blk_cell BK318.out 3).trans rfl
            have hfs231 := blk_frozen BK318.out 3
            have hns231_0 := NB287_318.out; have hns231_1 := NB300_318.out; have hns231_2 := NB311_318.out; have hms231_0 := NB318_287.out; have hms231_1 := NB318_300.out; have hms231_2 := NB318_311.out
            refine skip_ (w1 := ?_) (by rfl) rfl ?_ ?_
            rotate_left
            · go_simp; rfl
            refine hK.out _ _ ⟨((cell_far (p := ⟨gb318, _, none⟩) NB287_318.out _).trans (((cell_far (p := ⟨gb318, _, none⟩) NB287_318.out _).trans (((cell_far (p := ⟨gb318, _, none⟩) NB287_318.out _).trans (((cell_far (p := ⟨gb318, _, none⟩) NB287_318.out _).trans (hHeld.1)))))))), ((cell_far (p := ⟨gb318, _, none⟩) NB287_318.out _).trans (((cell_far (p := ⟨gb318, _, none⟩) NB287_318.out _).trans (((cell_far (p := ⟨gb318, _, none⟩) NB287_318.out _).trans (((cell_far (p := ⟨gb318, _, none⟩) NB287_318.out _).trans (hHeld.2.1)))))))), ((cell_far (p := ⟨gb318, _, none⟩) NB287_318.out _).trans (((cell_far (p := ⟨gb318, _, none⟩) NB287_318.out _).trans (((cell_far (p := ⟨gb318, _, none⟩) NB287_318.out _).trans (((cell_far (p := ⟨gb318, _, none⟩) NB287_318.out _).trans (hHeld.2.2.1)))))))), ((cell_far (p := ⟨gb318, _, none⟩) NB287_318.out _).trans (((cell_far (p := ⟨gb318, _, none⟩) NB287_318.out _).trans (((cell_far (p := ⟨gb318, _, none⟩) NB287_318.out _).trans (((cell_far (p := ⟨gb318, _, none⟩) NB287_318.out _).trans (hHeld.2.2.2.1)))))))), ((cell_far (p := ⟨gb318, _, none⟩) (by first | exact Kd.own_blk (Kd.R_ne HO_9.out BK318.out (by decide)) | (rw [add_block]; exact Kd.own_blk (Kd.R_ne HO_9.out BK318.out (by decide))) | (show (Addr.add _ _).block ≠ _; rw [add_block]; exact Kd.own_blk (Kd.R_ne HO_9.out BK318.out (by decide))) | (dsimp only; exact Kd.own_blk (Kd.R_ne HO_9.out BK318.out (by decide)))) _).trans (((cell_far (p := ⟨gb318, _, none⟩) (by first | exact Kd.own_blk (Kd.R_ne HO_9.out BK318.out (by decide)) | (rw [add_block]; exact Kd.own_blk (Kd.R_ne HO_9.out BK318.out (by decide))) | (show (Addr.add _ _).block ≠ _; rw [add_block]; exact Kd.own_blk (Kd.R_ne HO_9.out BK318.out (by decide))) | (dsimp only; exact Kd.own_blk (Kd.R_ne HO_9.out BK318.out (by decide)))) _).trans (((cell_far (p := ⟨gb318, _, none⟩) (by first | exact Kd.own_blk (Kd.R_ne HO_9.out BK318.out (by decide)) | (rw [add_block]; exact Kd.own_blk (Kd.R_ne HO_9.out BK318.out (by decide))) | (show (Addr.add _ _).block ≠ _; rw [add_block]; exact Kd.own_blk (Kd.R_ne HO_9.out BK318.out (by decide))) | (dsimp only; exact Kd.own_blk (Kd.R_ne HO_9.out BK318.out (by decide)))) _).trans (((cell_far (p := ⟨gb318, _, none⟩) (by first | exact Kd.own_blk (Kd.R_ne HO_9.out BK318.out (by decide)) | (rw [add_block]; exact Kd.own_blk (Kd.R_ne HO_9.out BK318.out (by decide))) | (show (Addr.add _ _).block ≠ _; rw [add_block]; exact Kd.own_blk (Kd.R_ne HO_9.out BK318.out (by decide))) | (dsimp only; exact Kd.own_blk (Kd.R_ne HO_9.out BK318.out (by decide)))) _).trans (hHeld.2.2.2.2))))))))⟩ (fun hHeld => ?_)
            clear hK K
            refine pure_ (i := 11) (N := some 14) (v := ?_) (a' := ?_) #[true, true, true, true, true, true, true, true, true, true, true, true] rfl rfl (any_of HT_.out (by kernel_rfl)) (fun _ _ _ h => h) (Or.inl ⟨by rfl, ?_⟩) ?_ ?_
            rotate_left
            · intro w'; go_simp; with_reducible rfl
            rotate_left
            · simp only [Act.put, List.setIfInBounds_toArray, List.set_cons_zero, List.set_cons_succ, i64_w, i32_w]; rfl
            refine done_ (done_of HT_.out (by kernel_rfl)) ?_
            try go_wp2
            have n0_ : Aside0 (Kd.R Kd.string 9 ((((w227.setCell ⟨gb318, 0, none⟩ (.string t313)).setCell ⟨gb318, 1, none⟩ (.int .i64 t314)).setCell ⟨gb318, 2, none⟩ (.int .i64 t315)).setCell ⟨gb318, 3, none⟩ (.string t316)) w.heap.size (fun _ => True) (.slice (some ad305) y301.length co214) y301) := ⟨by (with_reducible repeat (first | apply Kd.R_alloc | apply Kd.R_drewN | apply Kd.R_drew)); exact Kd.R_mono (Kd.R_far (p := ⟨gb318, 3, none⟩) (Kd.R_far (p := ⟨gb318, 2, none⟩) (Kd.R_far (p := ⟨gb318, 1, none⟩) (Kd.R_far (p := ⟨gb318, 0, none⟩) (Kd.R_types HO_9.out BK318.out (by decide)) (fun _ hk => hk.2) (.string t313)) (fun _ hk => hk.2) (.int .i64 t314)) (fun _ hk => hk.2) (.int .i64 t315)) (fun _ hk => hk.2) (.string t316)) (fun _ hk => trivial)⟩
            have n1_ : Aside0 (Kd.R k34 34 ((((w227.setCell ⟨gb318, 0, none⟩ (.string t313)).setCell ⟨gb318, 1, none⟩ (.int .i64 t314)).setCell ⟨gb318, 2, none⟩ (.int .i64 t315)).setCell ⟨gb318, 3, none⟩ (.string t316)) w.heap.size (fun k_ => k_ ≠ gb311 ∧ k_ ≠ gb318) (.slice Ao17 t296.length co17) t296) := ⟨by (with_reducible repeat (first | apply Kd.R_alloc | apply Kd.R_drewN | apply Kd.R_drew)); exact Kd.R_mono (Kd.R_far (p := ⟨gb318, 3, none⟩) (Kd.R_far (p := ⟨gb318, 2, none⟩) (Kd.R_far (p := ⟨gb318, 1, none⟩) (Kd.R_far (p := ⟨gb318, 0, none⟩) (Kd.R_mono HO_301003.out (fun k_ hk => (⟨hk, hk.2⟩ : _ ∧ k_ ≠ gb318))) (fun _ hk => hk.2) (.string t313)) (fun _ hk => hk.2) (.int .i64 t314)) (fun _ hk => hk.2) (.int .i64 t315)) (fun _ hk => hk.2) (.string t316)) (fun _ hk => ⟨hk.1.1, hk.1.2⟩)⟩
            have n2_ : Aside0 (((((w227.setCell ⟨gb318, 0, none⟩ (.string t313)).setCell ⟨gb318, 1, none⟩ (.int .i64 t314)).setCell ⟨gb318, 2, none⟩ (.int .i64 t315)).setCell ⟨gb318, 3, none⟩ (.string t316)).heap[gb287]? = some (.cells #[.int .i64 a0_0, .int .i64 a0_1, .int .i64 a0_2, .slice A0_3 l0_3.length c0_3] 50 (0, 0))) := ⟨by (with_reducible repeat (first | refine blk_drewN ?_ _ | refine blk_drew ?_ | refine blk_alloc ?_ _)); refine blk_far ?_ NB287_318.out _; (with_reducible repeat (first | refine blk_drewN ?_ _ | refine blk_drew ?_ | refine blk_alloc ?_ _)); refine blk_far ?_ NB287_318.out _; (with_reducible repeat (first | refine blk_drewN ?_ _ | refine blk_drew ?_ | refine blk_alloc ?_ _)); refine blk_far ?_ NB287_318.out _; (with_reducible repeat (first | refine blk_drewN ?_ _ | refine blk_drew ?_ | refine blk_alloc ?_ _)); refine blk_far ?_ NB287_318.out _; (with_reducible repeat (first | refine blk_drewN ?_ _ | refine blk_drew ?_ | refine blk_alloc ?_ _)); exact BK287.out⟩
            have n3_ : Aside0 (((((w227.setCell ⟨gb318, 0, none⟩ (.string t313)).setCell ⟨gb318, 1, none⟩ (.int .i64 t314)).setCell ⟨gb318, 2, none⟩ (.int .i64 t315)).setCell ⟨gb318, 3, none⟩ (.string t316)).heap[gb300]? = some (.cells #[.int .i64 t293, .int .i64 t294, .int .i64 t295, .slice Ao17 t296.length co17] 50 (0, 0))) := ⟨by (with_reducible repeat (first | refine blk_drewN ?_ _ | refine blk_drew ?_ | refine blk_alloc ?_ _)); refine blk_far ?_ NB300_318.out _; (with_reducible repeat (first | refine blk_drewN ?_ _ | refine blk_drew ?_ | refine blk_alloc ?_ _)); refine blk_far ?_ NB300_318.out _; (with_reducible repeat (first | refine blk_drewN ?_ _ | refine blk_drew ?_ | refine blk_alloc ?_ _)); refine blk_far ?_ NB300_318.out _; (with_reducible repeat (first | refine blk_drewN ?_ _ | refine blk_drew ?_ | refine blk_alloc ?_ _)); refine blk_far ?_ NB300_318.out _; (with_reducible repeat (first | refine blk_drewN ?_ _ | refine blk_drew ?_ | refine blk_alloc ?_ _)); exact BK300.out⟩
            have n4_ : Aside0 (((((w227.setCell ⟨gb318, 0, none⟩ (.string t313)).setCell ⟨gb318, 1, none⟩ (.int .i64 t314)).setCell ⟨gb318, 2, none⟩ (.int .i64 t315)).setCell ⟨gb318, 3, none⟩ (.string t316)).heap[gb311]? = some (.cells #[.string t306, .int .i64 t307, .int .i64 t308, .string t309] 34 (0, 0))) := ⟨by (with_reducible repeat (first | refine blk_drewN ?_ _ | refine blk_drew ?_ | refine blk_alloc ?_ _)); refine blk_far ?_ NB311_318.out _; (with_reducible repeat (first | refine blk_drewN ?_ _ | refine blk_drew ?_ | refine blk_alloc ?_ _)); refine blk_far ?_ NB311_318.out _; (with_reducible repeat (first | refine blk_drewN ?_ _ | refine blk_drew ?_ | refine blk_alloc ?_ _)); refine blk_far ?_ NB311_318.out _; (with_reducible repeat (first | refine blk_drewN ?_ _ | refine blk_drew ?_ | refine blk_alloc ?_ _)); refine blk_far ?_ NB311_318.out _; (with_reducible repeat (first | refine blk_drewN ?_ _ | refine blk_drew ?_ | refine blk_alloc ?_ _)); exact BK311.out⟩
            have n5_ : Aside0 (((((w227.setCell ⟨gb318, 0, none⟩ (.string t313)).setCell ⟨gb318, 1, none⟩ (.int .i64 t314)).setCell ⟨gb318, 2, none⟩ (.int .i64 t315)).setCell ⟨gb318, 3, none⟩ (.string t316)).heap[gb318]? = some (.cells #[.string t313, .int .i64 t314, .int .i64 t315, .string t316] 34 (0, 0))) := ⟨by (with_reducible repeat (first | refine blk_drewN ?_ _ | refine blk_drew ?_ | refine blk_alloc ?_ _)); refine blk_put (cs := #[.string t313, .int .i64 t314, .int .i64 t315, .string (⟨#[]⟩ : ByteArray)]) ?_ 3 _ rfl; (with_reducible repeat (first | refine blk_drewN ?_ _ | refine blk_drew ?_ | refine blk_alloc ?_ _)); refine blk_put (cs := #[.string t313, .int .i64 t314, .int .i64 0, .string (⟨#[]⟩ : ByteArray)]) ?_ 2 _ rfl; (with_reducible repeat (first | refine blk_drewN ?_ _ | refine blk_drew ?_ | refine blk_alloc ?_ _)); refine blk_put (cs := #[.string t313, .int .i64 0, .int .i64 0, .string (⟨#[]⟩ : ByteArray)]) ?_ 1 _ rfl; (with_reducible repeat (first | refine blk_drewN ?_ _ | refine blk_drew ?_ | refine blk_alloc ?_ _)); refine blk_put (cs := #[.string (⟨#[]⟩ : ByteArray), .int .i64 0, .int .i64 0, .string (⟨#[]⟩ : ByteArray)]) ?_ 0 _ rfl; (with_reducible repeat (first | refine blk_drewN ?_ _ | refine blk_drew ?_ | refine blk_alloc ?_ _)); exact BK318.out⟩
            have n6_ : Aside0 (Below w.heap.size w ((((w227.setCell ⟨gb318, 0, none⟩ (.string t313)).setCell ⟨gb318, 1, none⟩ (.int .i64 t314)).setCell ⟨gb318, 2, none⟩ (.int .i64 t315)).setCell ⟨gb318, 3, none⟩ (.string t316))) := ⟨by repeat (first | (with_reducible first | exact HB.out | apply below_alloc | apply pw_below_drewN | apply below_drew1 | refine below_set ?_ GE287.out | refine below_set ?_ GE300.out | refine below_set ?_ GE311.out | refine below_set ?_ GE318.out) | exact HB.out)⟩
            (try clear HO_9)
            (try clear HO_301003)
            (try clear BK287)
            (try clear BK300)
            (try clear BK311)
            (try clear BK318)
            (try clear HB)
            generalize ((((w227.setCell ⟨gb318, 0, none⟩ (.string t313)).setCell ⟨gb318, 1, none⟩ (.int .i64 t314)).setCell ⟨gb318, 2, none⟩ (.int .i64 t315)).setCell ⟨gb318, 3, none⟩ (.string t316)) = w232 at n0_ n1_ n2_ n3_ n4_ n5_ n6_ ⊢
            have HO_9 := n0_; have HO_301003 := n1_; have BK287 := n2_; have BK300 := n3_; have BK311 := n4_; have BK318 := n5_; have HB := n6_; clear n0_ n1_ n2_ n3_ n4_ n5_ n6_
            have n0_ := Aside0.mk (Kd.R_drew HO_9.out)
            have n1_ := Aside0.mk (Kd.R_drew HO_301003.out)
            have n2_ := Aside0.mk (blk_drew BK287.out)
            have n3_ := Aside0.mk (blk_drew BK300.out)
            have n4_ := Aside0.mk (blk_drew BK311.out)
            have n5_ := Aside0.mk (blk_drew BK318.out)
            have n6_ := Aside0.mk (below_drew1 HB.out)
            clear HO_9; clear HO_301003; clear BK287; clear BK300; clear BK311; clear BK318; clear HB; have HO_9 := n0_; have HO_301003 := n1_; have BK287 := n2_; have BK300 := n3_; have BK311 := n4_; have BK318 := n5_; have HB := n6_; clear n0_ n1_ n2_ n3_ n4_ n5_ n6_
            have p319 : 0 ≤ (x10_1 : Int) := of_decide_eq_true (by first | (with_reducible assumption) | assumption)
            have q319 : x10_1 < (y301.length : Int) := of_decide_eq_true (by first | (with_reducible assumption) | assumption)
            obtain ⟨ad319, e319, hx319_0⟩ := Kd.at_string (Kd.R_reads' HO_9.out).2.2 x10_1 p319 q319
            obtain rfl : ad305 = ad319 := (by injection e319)
            replace p319 := eq_true p319; replace q319 := eq_true q319
            refine start_ (n := 12) (S := fun w' => w'.cell? ⟨gb300, 0, none⟩ = some (.int .i64 t293) ∧ w'.cell? ⟨gb300, 1, none⟩ = some (.int .i64 t294) ∧ w'.cell? ⟨gb300, 2, none⟩ = some (.int .i64 t295) ∧ w'.cell? ⟨gb300, 3, none⟩ = some (.slice Ao17 t296.length co17) ∧ w'.cell? (ad305.add (x10_1).toNat) = some (.string (rdOf ByteArray.empty y301 x10_1))) (ds := []) #[false, false, false, false, false, false, false, false, false, false, false, false] (by kernel_rfl) rfl rfl ⟨(blk_cell BK300.out 0).trans rfl, (blk_cell BK300.out 1).trans rfl, (blk_cell BK300.out 2).trans rfl, (blk_cell BK300.out 3).trans rfl, hx319_0⟩ (fun hHeld => ?_); refine with_tabW kauditlaw03_RecordGets.tab11 kauditlaw03_RecordGets.bits11 (fun HT_ HW_ => ?_)
            generalize w232.drew = w233 at HO_9 HO_301003 BK287 BK300 BK311 BK318 HB hx319_0 hHeld ⊢
            refine pure_ (i := 1) (N := some 55) (v := ?_) (a' := ?_) #[false, true, false, false, false, false, false, false, false, false, false, false] rfl rfl (any_of HT_.out (by kernel_rfl)) (fun _ _ _ h => h) (Or.inl ⟨by rfl, ?_⟩) ?_ ?_
            rotate_left
            · intro w'; go_simp; with_reducible rfl
            rotate_left
            · simp only [Act.put, List.setIfInBounds_toArray, List.set_cons_zero, List.set_cons_succ, i64_w, i32_w]; rfl
            refine pure_ (i := 2) (N := some 56) (v := ?_) (a' := ?_) #[false, true, true, false, false, false, false, false, false, false, false, false] rfl rfl (any_of HT_.out (by kernel_rfl)) (fun _ _ _ h => h) (Or.inl ⟨by rfl, ?_⟩) ?_ ?_
            rotate_left
            · intro w'; go_simp; with_reducible rfl
            rotate_left
            · simp only [Act.put, List.setIfInBounds_toArray, List.set_cons_zero, List.set_cons_succ, i64_w, i32_w]; rfl
            refine pure_ (i := 3) (N := some 57) (v := ?_) (a' := ?_) #[false, true, true, true, false, false, false, false, false, false, false, false] rfl rfl (any_of HT_.out (by kernel_rfl)) (fun _ _ _ h => h) (Or.inl ⟨by rfl, ?_⟩) ?_ ?_
            rotate_left
            · intro w'; go_simp; with_reducible rfl
            rotate_left
            · simp only [Act.put, List.setIfInBounds_toArray, List.set_cons_zero, List.set_cons_succ, i64_w, i32_w]; rfl
            refine take_ (i := 0) (N := some 54) (v := ?_) (a' := ?_) #[true, true, true, true, false, false, false, false, false, false, false, false] rfl rfl (take_ofW HT_.out HW_.out (by kernel_rfl)) (fun _ _ _ h => h) (Or.inl ⟨by rfl, ?_⟩) hHeld ?_ ?_
            rotate_left
            · rintro w' ⟨s0, s1, s2, s3, s4⟩
              go_simp; with_reducible rfl
            rotate_left
            · simp only [Act.put, List.setIfInBounds_toArray, List.set_cons_zero, List.set_cons_succ, i64_w, i32_w]; rfl
            refine take_ (i := 4) (N := some 58) (v := ?_) (a' := ?_) #[true, true, true, true, true, false, false, false, false, false, false, false] rfl rfl (take_ofW HT_.out HW_.out (by kernel_rfl)) (fun _ _ _ h => h) (Or.inl ⟨by rfl, ?_⟩) hHeld ?_ ?_
            rotate_left
            · rintro w' ⟨s0, s1, s2, s3, s4⟩
              go_simp; with_reducible rfl
            rotate_left
            · simp only [Act.put, List.setIfInBounds_toArray, List.set_cons_zero, List.set_cons_succ, i64_w, i32_w]; rfl
            refine join_ (σ := Nat) 2 #[true, true, true, true, true, true, true, true, true, true, false, false] (fun s_ => [(59, .tuple #[.agg #[.string t320, .int .i64 t321, .int .i64 t322, .string t323], .bool t324]), (15, .pointer (some ⟨s_, 0, none⟩)), (53, .tuple #[.agg #[.string t320, .int .i64 t321, .int .i64 t322, .string t323], .bool t324]), (60, .agg #[.string t320, .int .i64 t321, .int .i64 t322, .string t323]), (61, .bool t324)]) (fun s_ w' => (w'.cell? ⟨gb300, 0, none⟩ = some (.int .i64 t293) ∧ w'.cell? ⟨gb300, 1, none⟩ = some (.int .i64 t294) ∧ w'.cell? ⟨gb300, 2, none⟩ = some (.int .i64 t295) ∧ w'.cell? ⟨gb300, 3, none⟩ = some (.slice Ao17 t296.length co17) ∧ w'.cell? (ad305.add (x10_1).toNat) = some (.string (rdOf ByteArray.empty y301 x10_1))) ∧ (Kd.R k34 34 w' w.heap.size (fun k_ => k_ ≠ gb311 ∧ k_ ≠ gb318 ∧ k_ ≠ s_) (.slice Ao17 t296.length co17) t296) ∧ (Kd.R Kd.string 9 w' w.heap.size (fun _ => True) (.slice (some ad305) y301.length co214) y301) ∧ (w'.heap[gb287]? = some (.cells #[.int .i64 a0_0, .int .i64 a0_1, .int .i64 a0_2, .slice A0_3 l0_3.length c0_3] 50 (0, 0))) ∧ (w'.heap[gb300]? = some (.cells #[.int .i64 t293, .int .i64 t294, .int .i64 t295, .slice Ao17 t296.length co17] 50 (0, 0))) ∧ (w'.heap[gb311]? = some (.cells #[.string t306, .int .i64 t307, .int .i64 t308, .string t309] 34 (0, 0))) ∧ (w'.heap[gb318]? = some (.cells #[.string t313, .int .i64 t314, .int .i64 t315, .string t316] 34 (0, 0))) ∧ (w'.heap[s_]? = some (.cells #[.string (⟨#[]⟩ : ByteArray), .int .i64 0, .int .i64 0, .string (⟨#[]⟩ : ByteArray)] 34 (0, 0))) ∧ (w.heap.size ≤ s_) ∧ (w.heap.size ≤ s_) ∧ (gb287 ≠ s_) ∧ (s_ ≠ gb287) ∧ (gb300 ≠ s_) ∧ (s_ ≠ gb300) ∧ (gb311 ≠ s_) ∧ (s_ ≠ gb311) ∧ (gb318 ≠ s_) ∧ (s_ ≠ gb318) ∧ (Below w.heap.size w w')) ?_ ?_
            rotate_left
            · intro hCont
              refine two_ (i := 5) (j := 9) (Ni := some 59) (Nj := some 15) #[true, true, true, true, true, true, false, false, false, false, false, false] #[true, true, true, true, true, false, false, false, false, true, false, false] rfl rfl rfl rfl (two_of HT_.out (by kernel_rfl)) (by decide) (by decide) (fun K hK => ?_) (fun K hK => ?_)
              · skip
                refine goes_ Tryd.func38 (by kernel_rfl) rfl #[.agg #[.int .i64 t293, .int .i64 t294, .int .i64 t295, .slice Ao17 t296.length co17], .string (rdOf ByteArray.empty y301 x10_1)] (by rfl) rfl rfl (by (try simp only [List.map_toArray, List.map_cons, List.map_nil]); first | done | rfl | (simp only [List.length_drop, List.length_take]; rfl)) ?_
                with_reducible refine (record_Get.calls k1 t293 t294 t295 _ _ t296 (rdOf ByteArray.empty y301 x10_1) t320 t321 t322 t323 t324 _ ?side1 ?side2 A24.out).mono ?_
                (case side1 => repeat (first | exact (Kd.R_reads' HO_301003.out).2.2 | (with_reducible refine Kd.C_alloc ?_ _) | (with_reducible refine Kd.C_drewN ?_ _) | (with_reducible refine Kd.C_drew ?_)))
                (case side2 => exact (Kd.R_reads' HO_301003.out).2.1)
                rintro e w234 ⟨rfl, hb⟩
                have HS4_ := (hb.cell (World.block_lt_of_cell? _ _ (hHeld.2.2.2.2))).trans (hHeld.2.2.2.2)
                refine ⟨_, rfl, ?_⟩
                have n0_ := Aside0.mk (Kd.R_below (by (with_reducible repeat (first | apply Kd.R_alloc | apply Kd.R_drewN | apply Kd.R_drew)); exact HO_9.out) hb)
                have n1_ := Aside0.mk (Kd.R_below (by (with_reducible repeat (first | apply Kd.R_alloc | apply Kd.R_drewN | apply Kd.R_drew)); exact HO_301003.out) hb)
                have n2_ := Aside0.mk (blk_below (g := gb287) (o := .cells #[.int .i64 a0_0, .int .i64 a0_1, .int .i64 a0_2, .slice A0_3 l0_3.length c0_3] 50 (0, 0)) (by (with_reducible repeat (first | refine blk_drewN ?_ _ | refine blk_drew ?_ | refine blk_alloc ?_ _)); exact BK287.out) hb)
                have n3_ := Aside0.mk (blk_below (g := gb300) (o := .cells #[.int .i64 t293, .int .i64 t294, .int .i64 t295, .slice Ao17 t296.length co17] 50 (0, 0)) (by (with_reducible repeat (first | refine blk_drewN ?_ _ | refine blk_drew ?_ | refine blk_alloc ?_ _)); exact BK300.out) hb)
                have n4_ := Aside0.mk (blk_below (g := gb311) (o := .cells #[.string t306, .int .i64 t307, .int .i64 t308, .string t309] 34 (0, 0)) (by (with_reducible repeat (first | refine blk_drewN ?_ _ | refine blk_drew ?_ | refine blk_alloc ?_ _)); exact BK311.out) hb)
                have n5_ := Aside0.mk (blk_below (g := gb318) (o := .cells #[.string t313, .int .i64 t314, .int .i64 t315, .string t316] 34 (0, 0)) (by (with_reducible repeat (first | refine blk_drewN ?_ _ | refine blk_drew ?_ | refine blk_alloc ?_ _)); exact BK318.out) hb)
                have n6_ := Aside0.mk (below_step (by repeat (first | (with_reducible first | exact HB.out | apply below_alloc | apply pw_below_drewN | apply below_drew1 | refine below_set ?_ GE287.out | refine below_set ?_ GE300.out | refine below_set ?_ GE311.out | refine below_set ?_ GE318.out) | exact HB.out)) hb)
                clear HO_9; clear HO_301003; clear BK287; clear BK300; clear BK311; clear BK318; clear HB; have HO_9 := n0_; have HO_301003 := n1_; have BK287 := n2_; have BK300 := n3_; have BK311 := n4_; have BK318 := n5_; have HB := n6_; clear n0_ n1_ n2_ n3_ n4_ n5_ n6_
                (try clear hb)
                (try clear hb2)
                (try clear hk)
                (try clear hi)
                refine hK.out _ _ ⟨(blk_cell BK300.out 0).trans rfl, (blk_cell BK300.out 1).trans rfl, (blk_cell BK300.out 2).trans rfl, (blk_cell BK300.out 3).trans rfl, HS4_⟩ (fun hHeld => ?_)
                clear hK K
                refine norm_ (a' := ?_) ?_ ?_
                rotate_left
                · show Act.put _ (some 59) _ = _
                  simp only [Act.put, List.setIfInBounds_toArray, List.set_cons_zero, List.set_cons_succ, i64_w, i32_w]; rfl
                refine pure_ (i := 6) (N := some 53) (v := ?_) (a' := ?_) #[true, true, true, true, true, true, true, false, false, false, false, false] rfl rfl (any_of HT_.out (by kernel_rfl)) (fun _ _ _ h => h) (Or.inl ⟨by rfl, ?_⟩) ?_ ?_
                rotate_left
                · intro w'; go_simp; with_reducible rfl
                rotate_left
                · simp only [Act.put, List.setIfInBounds_toArray, List.set_cons_zero, List.set_cons_succ, i64_w, i32_w]; rfl
                refine pure_ (i := 7) (N := some 60) (v := ?_) (a' := ?_) #[true, true, true, true, true, true, true, true, false, false, false, false] rfl rfl (any_of HT_.out (by kernel_rfl)) (fun _ _ _ h => h) (Or.inl ⟨by rfl, ?_⟩) ?_ ?_
                rotate_left
                · intro w'; go_simp; with_reducible rfl
                rotate_left
                · simp only [Act.put, List.setIfInBounds_toArray, List.set_cons_zero, List.set_cons_succ, i64_w, i32_w]; rfl
                refine pure_ (i := 8) (N := some 61) (v := ?_) (a' := ?_) #[true, true, true, true, true, true, true, true, true, false, false, false] rfl rfl (any_of HT_.out (by kernel_rfl)) (fun _ _ _ h => h) (Or.inl ⟨by rfl, ?_⟩) ?_ ?_
                rotate_left
                · intro w'; go_simp; with_reducible rfl
                rotate_left
                · simp only [Act.put, List.setIfInBounds_toArray, List.set_cons_zero, List.set_cons_succ, i64_w, i32_w]; rfl
                refine one_ (i := 9) (N := some 15) #[true, true, true, true, true, true, true, true, true, true, false, false] rfl rfl (one_of HT_.out (by kernel_rfl)) (by decide) (fun K hK => ?_)
                refine box_step ?hg (N := 15) ?hd (cs := #[.string (⟨#[]⟩ : ByteArray), .int .i64 0, .int .i64 0, .string (⟨#[]⟩ : ByteArray)]) (t := 34) ?hr ?_; (case hd => rfl); (case hg => rfl); (case hr => first | (go_simp; done) | (go_simp; rfl))
                intro gb325 hg w235 hbox hb
                have HS4_ := (hb.cell (World.block_lt_of_cell? _ _ (hHeld.2.2.2.2))).trans (hHeld.2.2.2.2)
                have n0_ := Aside0.mk (Kd.R_below (by (with_reducible repeat (first | apply Kd.R_alloc | apply Kd.R_drewN | apply Kd.R_drew)); exact HO_9.out) hb)
                have n1_ := Aside0.mk (Kd.R_below (Kd.R_elderB (by (with_reducible repeat (first | apply Kd.R_alloc | apply Kd.R_drewN | apply Kd.R_drew)); exact HO_301003.out) gb325 (Nat.le_of_eq hg.symm)) hb)
                have n2_ := Aside0.mk (blk_below (g := gb287) (o := .cells #[.int .i64 a0_0, .int .i64 a0_1, .int .i64 a0_2, .slice A0_3 l0_3.length c0_3] 50 (0, 0)) (by (with_reducible repeat (first | refine blk_drewN ?_ _ | refine blk_drew ?_ | refine blk_alloc ?_ _)); exact BK287.out) hb)
                have n3_ := Aside0.mk (blk_below (g := gb300) (o := .cells #[.int .i64 t293, .int .i64 t294, .int .i64 t295, .slice Ao17 t296.length co17] 50 (0, 0)) (by (with_reducible repeat (first | refine blk_drewN ?_ _ | refine blk_drew ?_ | refine blk_alloc ?_ _)); exact BK300.out) hb)
                have n4_ := Aside0.mk (blk_below (g := gb311) (o := .cells #[.string t306, .int .i64 t307, .int .i64 t308, .string t309] 34 (0, 0)) (by (with_reducible repeat (first | refine blk_drewN ?_ _ | refine blk_drew ?_ | refine blk_alloc ?_ _)); exact BK311.out) hb)
                have n5_ := Aside0.mk (blk_below (g := gb318) (o := .cells #[.string t313, .int .i64 t314, .int .i64 t315, .string t316] 34 (0, 0)) (by (with_reducible repeat (first | refine blk_drewN ?_ _ | refine blk_drew ?_ | refine blk_alloc ?_ _)); exact BK318.out) hb)
                have n6_ := Aside0.mk (below_step (by repeat (first | (with_reducible first | exact HB.out | apply below_alloc | apply pw_below_drewN | apply below_drew1 | refine below_set ?_ GE287.out | refine below_set ?_ GE300.out | refine below_set ?_ GE311.out | refine below_set ?_ GE318.out) | exact HB.out)) hb)
                have n7_ := Aside0.mk (hbox)
                have n8_ := Aside0.mk ((by rw [hg]; exact (below_size (by repeat (first | (with_reducible first | exact HB.out | apply below_alloc | apply pw_below_drewN | apply below_drew1 | refine below_set ?_ GE287.out | refine below_set ?_ GE300.out | refine below_set ?_ GE311.out | refine below_set ?_ GE318.out) | exact HB.out))) : w.heap.size ≤ gb325))
                have n9_ := Aside0.mk ((by rw [hg]; exact (below_size (by repeat (first | (with_reducible first | exact HB.out | apply below_alloc | apply pw_below_drewN | apply below_drew1 | refine below_set ?_ GE287.out | refine below_set ?_ GE300.out | refine below_set ?_ GE311.out | refine below_set ?_ GE318.out) | exact HB.out))) : w.heap.size ≤ gb325))
                have n10_ := Aside0.mk ((by rw [hg]; exact Nat.ne_of_lt (blk_lt (g := gb287) (o := .cells #[.int .i64 a0_0, .int .i64 a0_1, .int .i64 a0_2, .slice A0_3 l0_3.length c0_3] 50 (0, 0)) (by (with_reducible repeat (first | refine blk_drewN ?_ _ | refine blk_drew ?_ | refine blk_alloc ?_ _)); exact BK287.out)) : gb287 ≠ gb325))
                have n11_ := Aside0.mk ((by rw [hg]; exact Nat.ne_of_gt (blk_lt (g := gb287) (o := .cells #[.int .i64 a0_0, .int .i64 a0_1, .int .i64 a0_2, .slice A0_3 l0_3.length c0_3] 50 (0, 0)) (by (with_reducible repeat (first | refine blk_drewN ?_ _ | refine blk_drew ?_ | refine blk_alloc ?_ _)); exact BK287.out)) : gb325 ≠ gb287))
                have n12_ := Aside0.mk ((by rw [hg]; exact Nat.ne_of_lt (blk_lt (g := gb300) (o := .cells #[.int .i64 t293, .int .i64 t294, .int .i64 t295, .slice Ao17 t296.length co17] 50 (0, 0)) (by (with_reducible repeat (first | refine blk_drewN ?_ _ | refine blk_drew ?_ | refine blk_alloc ?_ _)); exact BK300.out)) : gb300 ≠ gb325))
                have n13_ := Aside0.mk ((by rw [hg]; exact Nat.ne_of_gt (blk_lt (g := gb300) (o := .cells #[.int .i64 t293, .int .i64 t294, .int .i64 t295, .slice Ao17 t296.length co17] 50 (0, 0)) (by (with_reducible repeat (first | refine blk_drewN ?_ _ | refine blk_drew ?_ | refine blk_alloc ?_ _)); exact BK300.out)) : gb325 ≠ gb300))
                have n14_ := Aside0.mk ((by rw [hg]; exact Nat.ne_of_lt (blk_lt (g := gb311) (o := .cells #[.string t306, .int .i64 t307, .int .i64 t308, .string t309] 34 (0, 0)) (by (with_reducible repeat (first | refine blk_drewN ?_ _ | refine blk_drew ?_ | refine blk_alloc ?_ _)); exact BK311.out)) : gb311 ≠ gb325))
                have n15_ := Aside0.mk ((by rw [hg]; exact Nat.ne_of_gt (blk_lt (g := gb311) (o := .cells #[.string t306, .int .i64 t307, .int .i64 t308, .string t309] 34 (0, 0)) (by (with_reducible repeat (first | refine blk_drewN ?_ _ | refine blk_drew ?_ | refine blk_alloc ?_ _)); exact BK311.out)) : gb325 ≠ gb311))
                have n16_ := Aside0.mk ((by rw [hg]; exact Nat.ne_of_lt (blk_lt (g := gb318) (o := .cells #[.string t313, .int .i64 t314, .int .i64 t315, .string t316] 34 (0, 0)) (by (with_reducible repeat (first | refine blk_drewN ?_ _ | refine blk_drew ?_ | refine blk_alloc ?_ _)); exact BK318.out)) : gb318 ≠ gb325))
                have n17_ := Aside0.mk ((by rw [hg]; exact Nat.ne_of_gt (blk_lt (g := gb318) (o := .cells #[.string t313, .int .i64 t314, .int .i64 t315, .string t316] 34 (0, 0)) (by (with_reducible repeat (first | refine blk_drewN ?_ _ | refine blk_drew ?_ | refine blk_alloc ?_ _)); exact BK318.out)) : gb325 ≠ gb318))
                clear HO_9; clear HO_301003; clear BK287; clear BK300; clear BK311; clear BK318; clear HB; have HO_9 := n0_; have HO_301003 := n1_; have BK287 := n2_; have BK300 := n3_; have BK311 := n4_; have BK318 := n5_; have HB := n6_; have BK325 := n7_; have GW325 := n8_; have GE325 := n9_; have NB287_325 := n10_; have NB325_287 := n11_; have NB300_325 := n12_; have NB325_300 := n13_; have NB311_325 := n14_; have NB325_311 := n15_; have NB318_325 := n16_; have NB325_318 := n17_; clear n0_ n1_ n2_ n3_ n4_ n5_ n6_ n7_ n8_ n9_ n10_ n11_ n12_ n13_ n14_ n15_ n16_ n17_; clear hb hbox hg
                refine hK.out _ _ ⟨(blk_cell BK300.out 0).trans rfl, (blk_cell BK300.out 1).trans rfl, (blk_cell BK300.out 2).trans rfl, (blk_cell BK300.out 3).trans rfl, HS4_⟩ (fun hHeld => ?_)
                clear hK K
                refine norm_ (a' := ?_) ?_ ?_
                rotate_left
                · show Act.put _ (some 15) _ = _
                  simp only [Act.put, List.setIfInBounds_toArray, List.set_cons_zero, List.set_cons_succ, i64_w, i32_w]; rfl
                exact norm_ (by simp only [putAll, Act.put, List.setIfInBounds_toArray, List.set_cons_zero, List.set_cons_succ]) (hCont (gb325) _ ⟨hHeld, (by (with_reducible repeat (first | apply Kd.R_alloc | apply Kd.R_drewN | apply Kd.R_drew)); exact Kd.R_mono HO_301003.out (fun _ hk => ⟨hk.1.1, ⟨hk.1.2, hk.2⟩⟩)), (by (with_reducible repeat (first | apply Kd.R_alloc | apply Kd.R_drewN | apply Kd.R_drew)); exact HO_9.out), (by (with_reducible repeat (first | refine blk_drewN ?_ _ | refine blk_drew ?_ | refine blk_alloc ?_ _)); exact BK287.out), (by (with_reducible repeat (first | refine blk_drewN ?_ _ | refine blk_drew ?_ | refine blk_alloc ?_ _)); exact BK300.out), (by (with_reducible repeat (first | refine blk_drewN ?_ _ | refine blk_drew ?_ | refine blk_alloc ?_ _)); exact BK311.out), (by (with_reducible repeat (first | refine blk_drewN ?_ _ | refine blk_drew ?_ | refine blk_alloc ?_ _)); exact BK318.out), (by (with_reducible repeat (first | refine blk_drewN ?_ _ | refine blk_drew ?_ | refine blk_alloc ?_ _)); exact BK325.out), GW325.out, GE325.out, NB287_325.out, NB325_287.out, NB300_325.out, NB325_300.out, NB311_325.out, NB325_311.out, NB318_325.out, NB325_318.out, (by repeat (first | (with_reducible first | exact HB.out | apply below_alloc | apply pw_below_drewN | apply below_drew1 | refine below_set ?_ GE287.out | refine below_set ?_ GE300.out | refine below_set ?_ GE311.out | refine below_set ?_ GE318.out | refine below_set ?_ GE325.out) | exact HB.out))⟩)
              · skip
                refine box_step ?hg (N := 15) ?hd (cs := #[.string (⟨#[]⟩ : ByteArray), .int .i64 0, .int .i64 0, .string (⟨#[]⟩ : ByteArray)]) (t := 34) ?hr ?_; (case hd => rfl); (case hg => rfl); (case hr => first | (go_simp; done) | (go_simp; rfl))
                intro gb325 hg w234 hbox hb
                have HS4_ := (hb.cell (World.block_lt_of_cell? _ _ (hHeld.2.2.2.2))).trans (hHeld.2.2.2.2)
                have n0_ := Aside0.mk (Kd.R_below (by (with_reducible repeat (first | apply Kd.R_alloc | apply Kd.R_drewN | apply Kd.R_drew)); exact HO_9.out) hb)
                have n1_ := Aside0.mk (Kd.R_below (Kd.R_elderB (by (with_reducible repeat (first | apply Kd.R_alloc | apply Kd.R_drewN | apply Kd.R_drew)); exact HO_301003.out) gb325 (Nat.le_of_eq hg.symm)) hb)
                have n2_ := Aside0.mk (blk_below (g := gb287) (o := .cells #[.int .i64 a0_0, .int .i64 a0_1, .int .i64 a0_2, .slice A0_3 l0_3.length c0_3] 50 (0, 0)) (by (with_reducible repeat (first | refine blk_drewN ?_ _ | refine blk_drew ?_ | refine blk_alloc ?_ _)); exact BK287.out) hb)
                have n3_ := Aside0.mk (blk_below (g := gb300) (o := .cells #[.int .i64 t293, .int .i64 t294, .int .i64 t295, .slice Ao17 t296.length co17] 50 (0, 0)) (by (with_reducible repeat (first | refine blk_drewN ?_ _ | refine blk_drew ?_ | refine blk_alloc ?_ _)); exact BK300.out) hb)
                have n4_ := Aside0.mk (blk_below (g := gb311) (o := .cells #[.string t306, .int .i64 t307, .int .i64 t308, .string t309] 34 (0, 0)) (by (with_reducible repeat (first | refine blk_drewN ?_ _ | refine blk_drew ?_ | refine blk_alloc ?_ _)); exact BK311.out) hb)
                have n5_ := Aside0.mk (blk_below (g := gb318) (o := .cells #[.string t313, .int .i64 t314, .int .i64 t315, .string t316] 34 (0, 0)) (by (with_reducible repeat (first | refine blk_drewN ?_ _ | refine blk_drew ?_ | refine blk_alloc ?_ _)); exact BK318.out) hb)
                have n6_ := Aside0.mk (below_step (by repeat (first | (with_reducible first | exact HB.out | apply below_alloc | apply pw_below_drewN | apply below_drew1 | refine below_set ?_ GE287.out | refine below_set ?_ GE300.out | refine below_set ?_ GE311.out | refine below_set ?_ GE318.out) | exact HB.out)) hb)
                have n7_ := Aside0.mk (hbox)
                have n8_ := Aside0.mk ((by rw [hg]; exact (below_size (by repeat (first | (with_reducible first | exact HB.out | apply below_alloc | apply pw_below_drewN | apply below_drew1 | refine below_set ?_ GE287.out | refine below_set ?_ GE300.out | refine below_set ?_ GE311.out | refine below_set ?_ GE318.out) | exact HB.out))) : w.heap.size ≤ gb325))
                have n9_ := Aside0.mk ((by rw [hg]; exact (below_size (by repeat (first | (with_reducible first | exact HB.out | apply below_alloc | apply pw_below_drewN | apply below_drew1 | refine below_set ?_ GE287.out | refine below_set ?_ GE300.out | refine below_set ?_ GE311.out | refine below_set ?_ GE318.out) | exact HB.out))) : w.heap.size ≤ gb325))
                have n10_ := Aside0.mk ((by rw [hg]; exact Nat.ne_of_lt (blk_lt (g := gb287) (o := .cells #[.int .i64 a0_0, .int .i64 a0_1, .int .i64 a0_2, .slice A0_3 l0_3.length c0_3] 50 (0, 0)) (by (with_reducible repeat (first | refine blk_drewN ?_ _ | refine blk_drew ?_ | refine blk_alloc ?_ _)); exact BK287.out)) : gb287 ≠ gb325))
                have n11_ := Aside0.mk ((by rw [hg]; exact Nat.ne_of_gt (blk_lt (g := gb287) (o := .cells #[.int .i64 a0_0, .int .i64 a0_1, .int .i64 a0_2, .slice A0_3 l0_3.length c0_3] 50 (0, 0)) (by (with_reducible repeat (first | refine blk_drewN ?_ _ | refine blk_drew ?_ | refine blk_alloc ?_ _)); exact BK287.out)) : gb325 ≠ gb287))
                have n12_ := Aside0.mk ((by rw [hg]; exact Nat.ne_of_lt (blk_lt (g := gb300) (o := .cells #[.int .i64 t293, .int .i64 t294, .int .i64 t295, .slice Ao17 t296.length co17] 50 (0, 0)) (by (with_reducible repeat (first | refine blk_drewN ?_ _ | refine blk_drew ?_ | refine blk_alloc ?_ _)); exact BK300.out)) : gb300 ≠ gb325))
                have n13_ := Aside0.mk ((by rw [hg]; exact Nat.ne_of_gt (blk_lt (g := gb300) (o := .cells #[.int .i64 t293, .int .i64 t294, .int .i64 t295, .slice Ao17 t296.length co17] 50 (0, 0)) (by (with_reducible repeat (first | refine blk_drewN ?_ _ | refine blk_drew ?_ | refine blk_alloc ?_ _)); exact BK300.out)) : gb325 ≠ gb300))
                have n14_ := Aside0.mk ((by rw [hg]; exact Nat.ne_of_lt (blk_lt (g := gb311) (o := .cells #[.string t306, .int .i64 t307, .int .i64 t308, .string t309] 34 (0, 0)) (by (with_reducible repeat (first | refine blk_drewN ?_ _ | refine blk_drew ?_ | refine blk_alloc ?_ _)); exact BK311.out)) : gb311 ≠ gb325))
                have n15_ := Aside0.mk ((by rw [hg]; exact Nat.ne_of_gt (blk_lt (g := gb311) (o := .cells #[.string t306, .int .i64 t307, .int .i64 t308, .string t309] 34 (0, 0)) (by (with_reducible repeat (first | refine blk_drewN ?_ _ | refine blk_drew ?_ | refine blk_alloc ?_ _)); exact BK311.out)) : gb325 ≠ gb311))
                have n16_ := Aside0.mk ((by rw [hg]; exact Nat.ne_of_lt (blk_lt (g := gb318) (o := .cells #[.string t313, .int .i64 t314, .int .i64 t315, .string t316] 34 (0, 0)) (by (with_reducible repeat (first | refine blk_drewN ?_ _ | refine blk_drew ?_ | refine blk_alloc ?_ _)); exact BK318.out)) : gb318 ≠ gb325))
                have n17_ := Aside0.mk ((by rw [hg]; exact Nat.ne_of_gt (blk_lt (g := gb318) (o := .cells #[.string t313, .int .i64 t314, .int .i64 t315, .string t316] 34 (0, 0)) (by (with_reducible repeat (first | refine blk_drewN ?_ _ | refine blk_drew ?_ | refine blk_alloc ?_ _)); exact BK318.out)) : gb325 ≠ gb318))
                clear HO_9; clear HO_301003; clear BK287; clear BK300; clear BK311; clear BK318; clear HB; have HO_9 := n0_; have HO_301003 := n1_; have BK287 := n2_; have BK300 := n3_; have BK311 := n4_; have BK318 := n5_; have HB := n6_; have BK325 := n7_; have GW325 := n8_; have GE325 := n9_; have NB287_325 := n10_; have NB325_287 := n11_; have NB300_325 := n12_; have NB325_300 := n13_; have NB311_325 := n14_; have NB325_311 := n15_; have NB318_325 := n16_; have NB325_318 := n17_; clear n0_ n1_ n2_ n3_ n4_ n5_ n6_ n7_ n8_ n9_ n10_ n11_ n12_ n13_ n14_ n15_ n16_ n17_; clear hb hbox hg
                refine hK.out _ _ ⟨(blk_cell BK300.out 0).trans rfl, (blk_cell BK300.out 1).trans rfl, (blk_cell BK300.out 2).trans rfl, (blk_cell BK300.out 3).trans rfl, HS4_⟩ (fun hHeld => ?_)
                clear hK K
                refine norm_ (a' := ?_) ?_ ?_
                rotate_left
                · show Act.put _ (some 15) _ = _
                  simp only [Act.put, List.setIfInBounds_toArray, List.set_cons_zero, List.set_cons_succ, i64_w, i32_w]; rfl
                refine one_ (i := 5) (N := some 59) #[true, true, true, true, true, true, false, false, false, true, false, false] rfl rfl (one_of HT_.out (by kernel_rfl)) (by decide) (fun K hK => ?_)
                refine goes_ Tryd.func38 (by kernel_rfl) rfl #[.agg #[.int .i64 t293, .int .i64 t294, .int .i64 t295, .slice Ao17 t296.length co17], .string (rdOf ByteArray.empty y301 x10_1)] (by rfl) rfl rfl (by (try simp only [List.map_toArray, List.map_cons, List.map_nil]); first | done | rfl | (simp only [List.length_drop, List.length_take]; rfl)) ?_
                with_reducible refine (record_Get.calls k1 t293 t294 t295 _ _ t296 (rdOf ByteArray.empty y301 x10_1) t320 t321 t322 t323 t324 _ ?side1 ?side2 A24.out).mono ?_
                (case side1 => repeat (first | exact (Kd.R_reads' HO_301003.out).2.2 | (with_reducible refine Kd.C_alloc ?_ _) | (with_reducible refine Kd.C_drewN ?_ _) | (with_reducible refine Kd.C_drew ?_)))
                (case side2 => exact (Kd.R_reads' HO_301003.out).2.1)
                rintro e w235 ⟨rfl, hb⟩
                have HS4_ := (hb.cell (World.block_lt_of_cell? _ _ (hHeld.2.2.2.2))).trans (hHeld.2.2.2.2)
                refine ⟨_, rfl, ?_⟩
                have n0_ := Aside0.mk (Kd.R_below (by (with_reducible repeat (first | apply Kd.R_alloc | apply Kd.R_drewN | apply Kd.R_drew)); exact HO_9.out) hb)
                have n1_ := Aside0.mk (Kd.R_below (by (with_reducible repeat (first | apply Kd.R_alloc | apply Kd.R_drewN | apply Kd.R_drew)); exact HO_301003.out) hb)
                have n2_ := Aside0.mk (blk_below (g := gb287) (o := .cells #[.int .i64 a0_0, .int .i64 a0_1, .int .i64 a0_2, .slice A0_3 l0_3.length c0_3] 50 (0, 0)) (by (with_reducible repeat (first | refine blk_drewN ?_ _ | refine blk_drew ?_ | refine blk_alloc ?_ _)); exact BK287.out) hb)
                have n3_ := Aside0.mk (blk_below (g := gb300) (o := .cells #[.int .i64 t293, .int .i64 t294, .int .i64 t295, .slice Ao17 t296.length co17] 50 (0, 0)) (by (with_reducible repeat (first | refine blk_drewN ?_ _ | refine blk_drew ?_ | refine blk_alloc ?_ _)); exact BK300.out) hb)
                have n4_ := Aside0.mk (blk_below (g := gb311) (o := .cells #[.string t306, .int .i64 t307, .int .i64 t308, .string t309] 34 (0, 0)) (by (with_reducible repeat (first | refine blk_drewN ?_ _ | refine blk_drew ?_ | refine blk_alloc ?_ _)); exact BK311.out) hb)
                have n5_ := Aside0.mk (blk_below (g := gb318) (o := .cells #[.string t313, .int .i64 t314, .int .i64 t315, .string t316] 34 (0, 0)) (by (with_reducible repeat (first | refine blk_drewN ?_ _ | refine blk_drew ?_ | refine blk_alloc ?_ _)); exact BK318.out) hb)
                have n6_ := Aside0.mk (blk_below (g := gb325) (o := .cells #[.string (⟨#[]⟩ : ByteArray), .int .i64 0, .int .i64 0, .string (⟨#[]⟩ : ByteArray)] 34 (0, 0)) (by (with_reducible repeat (first | refine blk_drewN ?_ _ | refine blk_drew ?_ | refine blk_alloc ?_ _)); exact BK325.out) hb)
                have n7_ := Aside0.mk (below_step (by repeat (first | (with_reducible first | exact HB.out | apply below_alloc | apply pw_below_drewN | apply below_drew1 | refine below_set ?_ GE287.out | refine below_set ?_ GE300.out | refine below_set ?_ GE311.out | refine below_set ?_ GE318.out | refine below_set ?_ GE325.out) | exact HB.out)) hb)
                clear HO_9; clear HO_301003; clear BK287; clear BK300; clear BK311; clear BK318; clear BK325; clear HB; have HO_9 := n0_; have HO_301003 := n1_; have BK287 := n2_; have BK300 := n3_; have BK311 := n4_; have BK318 := n5_; have BK325 := n6_; have HB := n7_; clear n0_ n1_ n2_ n3_ n4_ n5_ n6_ n7_
                (try clear hb)
                (try clear hb2)
                (try clear hk)
                (try clear hi)
                refine hK.out _ _ ⟨(blk_cell BK300.out 0).trans rfl, (blk_cell BK300.out 1).trans rfl, (blk_cell BK300.out 2).trans rfl, (blk_cell BK300.out 3).trans rfl, HS4_⟩ (fun hHeld => ?_)
                clear hK K
                refine norm_ (a' := ?_) ?_ ?_
                rotate_left
                · show Act.put _ (some 59) _ = _
                  simp only [Act.put, List.setIfInBounds_toArray, List.set_cons_zero, List.set_cons_succ, i64_w, i32_w]; rfl
                refine pure_ (i := 6) (N := some 53) (v := ?_) (a' := ?_) #[true, true, true, true, true, true, true, false, false, true, false, false] rfl rfl (any_of HT_.out (by kernel_rfl)) (fun _ _ _ h => h) (Or.inl ⟨by rfl, ?_⟩) ?_ ?_
                rotate_left
                · intro w'; go_simp; with_reducible rfl
                rotate_left
                · simp only [Act.put, List.setIfInBounds_toArray, List.set_cons_zero, List.set_cons_succ, i64_w, i32_w]; rfl
                refine pure_ (i := 7) (N := some 60) (v := ?_) (a' := ?_) #[true, true, true, true, true, true, true, true, false, true, false, false] rfl rfl (any_of HT_.out (by kernel_rfl)) (fun _ _ _ h => h) (Or.inl ⟨by rfl, ?_⟩) ?_ ?_
                rotate_left
                · intro w'; go_simp; with_reducible rfl
                rotate_left
                · simp only [Act.put, List.setIfInBounds_toArray, List.set_cons_zero, List.set_cons_succ, i64_w, i32_w]; rfl
                refine pure_ (i := 8) (N := some 61) (v := ?_) (a' := ?_) #[true, true, true, true, true, true, true, true, true, true, false, false] rfl rfl (any_of HT_.out (by kernel_rfl)) (fun _ _ _ h => h) (Or.inl ⟨by rfl, ?_⟩) ?_ ?_
                rotate_left
                · intro w'; go_simp; with_reducible rfl
                rotate_left
                · simp only [Act.put, List.setIfInBounds_toArray, List.set_cons_zero, List.set_cons_succ, i64_w, i32_w]; rfl
                exact norm_ (by simp only [putAll, Act.put, List.setIfInBounds_toArray, List.set_cons_zero, List.set_cons_succ]) (hCont (gb325) _ ⟨hHeld, (by (with_reducible repeat (first | apply Kd.R_alloc | apply Kd.R_drewN | apply Kd.R_drew)); exact Kd.R_mono HO_301003.out (fun _ hk => ⟨hk.1.1, ⟨hk.1.2, hk.2⟩⟩)), (by (with_reducible repeat (first | apply Kd.R_alloc | apply Kd.R_drewN | apply Kd.R_drew)); exact HO_9.out), (by (with_reducible repeat (first | refine blk_drewN ?_ _ | refine blk_drew ?_ | refine blk_alloc ?_ _)); exact BK287.out), (by (with_reducible repeat (first | refine blk_drewN ?_ _ | refine blk_drew ?_ | refine blk_alloc ?_ _)); exact BK300.out), (by (with_reducible repeat (first | refine blk_drewN ?_ _ | refine blk_drew ?_ | refine blk_alloc ?_ _)); exact BK311.out), (by (with_reducible repeat (first | refine blk_drewN ?_ _ | refine blk_drew ?_ | refine blk_alloc ?_ _)); exact BK318.out), (by (with_reducible repeat (first | refine blk_drewN ?_ _ | refine blk_drew ?_ | refine blk_alloc ?_ _)); exact BK325.out), GW325.out, GE325.out, NB287_325.out, NB325_287.out, NB300_325.out, NB325_300.out, NB311_325.out, NB325_311.out, NB318_325.out, NB325_318.out, (by repeat (first | (with_reducible first | exact HB.out | apply below_alloc | apply pw_below_drewN | apply below_drew1 | refine below_set ?_ GE287.out | refine below_set ?_ GE300.out | refine below_set ?_ GE311.out | refine below_set ?_ GE318.out | refine below_set ?_ GE325.out) | exact HB.out))⟩)
            rintro gb325 w236 ⟨hS_, h0_, h1_, h2_, h3_, h4_, h5_, h6_, h7_, h8_, h9_, h10_, h11_, h12_, h13_, h14_, h15_, h16_, h17_⟩
            have n0_ : Aside0 (Kd.R k34 34 w236 w.heap.size (fun k_ => k_ ≠ gb311 ∧ k_ ≠ gb318 ∧ k_ ≠ gb325) (.slice Ao17 t296.length co17) t296) := ⟨h0_⟩
            have n1_ : Aside0 (Kd.R Kd.string 9 w236 w.heap.size (fun _ => True) (.slice (some ad305) y301.length co214) y301) := ⟨h1_⟩
            have n2_ : Aside0 (w236.heap[gb287]? = some (.cells #[.int .i64 a0_0, .int .i64 a0_1, .int .i64 a0_2, .slice A0_3 l0_3.length c0_3] 50 (0, 0))) := ⟨h2_⟩
            have n3_ : Aside0 (w236.heap[gb300]? = some (.cells #[.int .i64 t293, .int .i64 t294, .int .i64 t295, .slice Ao17 t296.length co17] 50 (0, 0))) := ⟨h3_⟩
            have n4_ : Aside0 (w236.heap[gb311]? = some (.cells #[.string t306, .int .i64 t307, .int .i64 t308, .string t309] 34 (0, 0))) := ⟨h4_⟩
            have n5_ : Aside0 (w236.heap[gb318]? = some (.cells #[.string t313, .int .i64 t314, .int .i64 t315, .string t316] 34 (0, 0))) := ⟨h5_⟩
            have n6_ : Aside0 (w236.heap[gb325]? = some (.cells #[.string (⟨#[]⟩ : ByteArray), .int .i64 0, .int .i64 0, .string (⟨#[]⟩ : ByteArray)] 34 (0, 0))) := ⟨h6_⟩
            have n7_ : Aside0 (w.heap.size ≤ gb325) := ⟨h7_⟩
            have n8_ : Aside0 (w.heap.size ≤ gb325) := ⟨h8_⟩
            have n9_ : Aside0 (gb287 ≠ gb325) := ⟨h9_⟩
            have n10_ : Aside0 (gb325 ≠ gb287) := ⟨h10_⟩
            have n11_ : Aside0 (gb300 ≠ gb325) := ⟨h11_⟩
            have n12_ : Aside0 (gb325 ≠ gb300) := ⟨h12_⟩
            have n13_ : Aside0 (gb311 ≠ gb325) := ⟨h13_⟩
            have n14_ : Aside0 (gb325 ≠ gb311) := ⟨h14_⟩
            have n15_ : Aside0 (gb318 ≠ gb325) := ⟨h15_⟩
            have n16_ : Aside0 (gb325 ≠ gb318) := ⟨h16_⟩
            have n17_ : Aside0 (Below w.heap.size w w236) := ⟨h17_⟩
            clear HO_9; clear HO_301003; clear BK287; clear BK300; clear BK311; clear BK318; clear HB; clear h0_ h1_ h2_ h3_ h4_ h5_ h6_ h7_ h8_ h9_ h10_ h11_ h12_ h13_ h14_ h15_ h16_ h17_; have HO_301003 := n0_; have HO_9 := n1_; have BK287 := n2_; have BK300 := n3_; have BK311 := n4_; have BK318 := n5_; have BK325 := n6_; have GW325 := n7_; have GE325 := n8_; have NB287_325 := n9_; have NB325_287 := n10_; have NB300_325 := n11_; have NB325_300 := n12_; have NB311_325 := n13_; have NB325_311 := n14_; have NB318_325 := n15_; have NB325_318 := n16_; have HB := n17_; clear n0_ n1_ n2_ n3_ n4_ n5_ n6_ n7_ n8_ n9_ n10_ n11_ n12_ n13_ n14_ n15_ n16_ n17_
            have hHeld : w236.cell? ⟨gb300, 0, none⟩ = some (.int .i64 t293) ∧ w236.cell? ⟨gb300, 1, none⟩ = some (.int .i64 t294) ∧ w236.cell? ⟨gb300, 2, none⟩ = some (.int .i64 t295) ∧ w236.cell? ⟨gb300, 3, none⟩ = some (.slice Ao17 t296.length co17) ∧ w236.cell? (ad305.add (x10_1).toNat) = some (.string (rdOf ByteArray.empty y301 x10_1)) := hS_
            refine norm_ (a' := ?_) ?_ ?_
            rotate_left
            · simp only [putAll, Act.put, List.setIfInBounds_toArray, List.set_cons_zero, List.set_cons_succ]; rfl
            refine one_ (i := 10) (N := none) #[true, true, true, true, true, true, true, true, true, true, true, false] rfl rfl (one_of HT_.out (by kernel_rfl)) (by decide) (fun K hK => ?_)
            have hs237 : w236.cell? ⟨gb325, 0, none⟩ = some (.string (⟨#[]⟩ : ByteArray)) := (blk_cell BK325.out 0).trans rfl
            have hfs237 := blk_frozen BK325.out 0
            have hns237_0 := NB287_325.out; have hns237_1 := NB300_325.out; have hns237_2 := NB311_325.out; have hns237_3 := NB318_325.out; have hms237_0 := NB325_287.out; have hms237_1 := NB325_300.out; have hms237_2 := NB325_311.out; have hms237_3 := NB325_318.out
            have hs238 : w236.cell? ⟨gb325, 1, none⟩ = some (.int .i64 0) := (blk_cell BK325.out 1).trans rfl
            have hfs238 := blk_frozen BK325.out 1
            have hns238_0 := NB287_325.out; have hns238_1 := NB300_325.out; have hns238_2 := NB311_325.out; have hns238_3 := NB318_325.out; have hms238_0 := NB325_287.out; have hms238_1 := NB325_300.out; have hms238_2 := NB325_311.out; have hms238_3 := NB325_318.out
            have hs239 : w236.cell? ⟨gb325, 2, none⟩ = some (.int .i64 0) := (blk_cell BK325.out 2).trans rfl
            have hfs239 := blk_frozen BK325.out 2
            have hns239_0 := NB287_325.out; have hns239_1 := NB300_325.out; have hns239_2 := NB311_325.out; have hns239_3 := NB318_325.out; have hms239_0 := NB325_287.out; have hms239_1 := NB325_300.out; have hms239_2 := NB325_311.out; have hms239_3 := NB325_318.out
            have hs240 : w236.cell? ⟨gb325, 3, none⟩ = some (.string (⟨#[]⟩ : ByteArray)) := (blk_cell BK325.out 3).trans rfl
            have hfs240 := blk_frozen BK325.out 3
            have hns240_0 := NB287_325.out; have hns240_1 := NB300_325.out; have hns240_2 := NB311_325.out; have hns240_3 := NB318_325.out; have hms240_0 := NB325_287.out; have hms240_1 := NB325_300.out; have hms240_2 := NB325_311.out; have hms240_3 := NB325_318.out
            refine skip_ (w1 := ?_) (by rfl) rfl ?_ ?_
            rotate_left
            · go_simp; rfl
            refine hK.out _ _ ⟨((cell_far (p := ⟨gb325, _, none⟩) NB300_325.out _).trans (((cell_far (p := ⟨gb325, _, none⟩) NB300_325.out _).trans (((cell_far (p := ⟨gb325, _, none⟩) NB300_325.out _).trans (((cell_far (p := ⟨gb325, _, none⟩) NB300_325.out _).trans (hHeld.1)))))))), ((cell_far (p := ⟨gb325, _, none⟩) NB300_325.out _).trans (((cell_far (p := ⟨gb325, _, none⟩) NB300_325.out _).trans (((cell_far (p := ⟨gb325, _, none⟩) NB300_325.out _).trans (((cell_far (p := ⟨gb325, _, none⟩) NB300_325.out _).trans (hHeld.2.1)))))))), ((cell_far (p := ⟨gb325, _, none⟩) NB300_325.out _).trans (((cell_far (p := ⟨gb325, _, none⟩) NB300_325.out _).trans (((cell_far (p := ⟨gb325, _, none⟩) NB300_325.out _).trans (((cell_far (p := ⟨gb325, _, none⟩) NB300_325.out _).trans (hHeld.2.2.1)))))))), ((cell_far (p := ⟨gb325, _, none⟩) NB300_325.out _).trans (((cell_far (p := ⟨gb325, _, none⟩) NB300_325.out _).trans (((cell_far (p := ⟨gb325, _, none⟩) NB300_325.out _).trans (((cell_far (p := ⟨gb325, _, none⟩) NB300_325.out _).trans (hHeld.2.2.2.1)))))))), ((cell_far (p := ⟨gb325, _, none⟩) (by first | exact Kd.own_blk (Kd.R_ne HO_9.out BK325.out (by decide)) | (rw [add_block]; exact Kd.own_blk (Kd.R_ne HO_9.out BK325.out (by decide))) | (show (Addr.add _ _).block ≠ _; rw [add_block]; exact Kd.own_blk (Kd.R_ne HO_9.out BK325.out (by decide))) | (dsimp only; exact Kd.own_blk (Kd.R_ne HO_9.out BK325.out (by decide)))) _).trans (((cell_far (p := ⟨gb325, _, none⟩) (by first | exact Kd.own_blk (Kd.R_ne HO_9.out BK325.out (by decide)) | (rw [add_block]; exact Kd.own_blk (Kd.R_ne HO_9.out BK325.out (by decide))) | (show (Addr.add _ _).block ≠ _; rw [add_block]; exact Kd.own_blk (Kd.R_ne HO_9.out BK325.out (by decide))) | (dsimp only; exact Kd.own_blk (Kd.R_ne HO_9.out BK325.out (by decide)))) _).trans (((cell_far (p := ⟨gb325, _, none⟩) (by first | exact Kd.own_blk (Kd.R_ne HO_9.out BK325.out (by decide)) | (rw [add_block]; exact Kd.own_blk (Kd.R_ne HO_9.out BK325.out (by decide))) | (show (Addr.add _ _).block ≠ _; rw [add_block]; exact Kd.own_blk (Kd.R_ne HO_9.out BK325.out (by decide))) | (dsimp only; exact Kd.own_blk (Kd.R_ne HO_9.out BK325.out (by decide)))) _).trans (((cell_far (p := ⟨gb325, _, none⟩) (by first | exact Kd.own_blk (Kd.R_ne HO_9.out BK325.out (by decide)) | (rw [add_block]; exact Kd.own_blk (Kd.R_ne HO_9.out BK325.out (by decide))) | (show (Addr.add _ _).block ≠ _; rw [add_block]; exact Kd.own_blk (Kd.R_ne HO_9.out BK325.out (by decide))) | (dsimp only; exact Kd.own_blk (Kd.R_ne HO_9.out BK325.out (by decide)))) _).trans (hHeld.2.2.2.2))))))))⟩ (fun hHeld => ?_)
            clear hK K
            refine pure_ (i := 11) (N := some 16) (v := ?_) (a' := ?_) #[true, true, true, true, true, true, true, true, true, true, true, true] rfl rfl (any_of HT_.out (by kernel_rfl)) (fun _ _ _ h => h) (Or.inl ⟨by rfl, ?_⟩) ?_ ?_
            rotate_left
            · intro w'; go_simp; with_reducible rfl
            rotate_left
            · simp only [Act.put, List.setIfInBounds_toArray, List.set_cons_zero, List.set_cons_succ, i64_w, i32_w]; rfl
            refine done_ (done_of HT_.out (by kernel_rfl)) ?_
            try go_wp2
            have n0_ : Aside0 (Kd.R Kd.string 9 ((((w236.setCell ⟨gb325, 0, none⟩ (.string t320)).setCell ⟨gb325, 1, none⟩ (.int .i64 t321)).setCell ⟨gb325, 2, none⟩ (.int .i64 t322)).setCell ⟨gb325, 3, none⟩ (.string t323)) w.heap.size (fun _ => True) (.slice (some ad305) y301.length co214) y301) := ⟨by (with_reducible repeat (first | apply Kd.R_alloc | apply Kd.R_drewN | apply Kd.R_drew)); exact Kd.R_mono (Kd.R_far (p := ⟨gb325, 3, none⟩) (Kd.R_far (p := ⟨gb325, 2, none⟩) (Kd.R_far (p := ⟨gb325, 1, none⟩) (Kd.R_far (p := ⟨gb325, 0, none⟩) (Kd.R_types HO_9.out BK325.out (by decide)) (fun _ hk => hk.2) (.string t320)) (fun _ hk => hk.2) (.int .i64 t321)) (fun _ hk => hk.2) (.int .i64 t322)) (fun _ hk => hk.2) (.string t323)) (fun _ hk => trivial)⟩
            have n1_ : Aside0 (Kd.R k34 34 ((((w236.setCell ⟨gb325, 0, none⟩ (.string t320)).setCell ⟨gb325, 1, none⟩ (.int .i64 t321)).setCell ⟨gb325, 2, none⟩ (.int .i64 t322)).setCell ⟨gb325, 3, none⟩ (.string t323)) w.heap.size (fun k_ => k_ ≠ gb311 ∧ k_ ≠ gb318 ∧ k_ ≠ gb325) (.slice Ao17 t296.length co17) t296) := ⟨by (with_reducible repeat (first | apply Kd.R_alloc | apply Kd.R_drewN | apply Kd.R_drew)); exact Kd.R_mono (Kd.R_far (p := ⟨gb325, 3, none⟩) (Kd.R_far (p := ⟨gb325, 2, none⟩) (Kd.R_far (p := ⟨gb325, 1, none⟩) (Kd.R_far (p := ⟨gb325, 0, none⟩) (Kd.R_mono HO_301003.out (fun k_ hk => (⟨hk, hk.2.2⟩ : _ ∧ k_ ≠ gb325))) (fun _ hk => hk.2) (.string t320)) (fun _ hk => hk.2) (.int .i64 t321)) (fun _ hk => hk.2) (.int .i64 t322)) (fun _ hk => hk.2) (.string t323)) (fun _ hk => ⟨hk.1.1, ⟨hk.1.2.1, hk.1.2.2⟩⟩)⟩
            have n2_ : Aside0 (((((w236.setCell ⟨gb325, 0, none⟩ (.string t320)).setCell ⟨gb325, 1, none⟩ (.int .i64 t321)).setCell ⟨gb325, 2, none⟩ (.int .i64 t322)).setCell ⟨gb325, 3, none⟩ (.string t323)).heap[gb287]? = some (.cells #[.int .i64 a0_0, .int .i64 a0_1, .int .i64 a0_2, .slice A0_3 l0_3.length c0_3] 50 (0, 0))) := ⟨by (with_reducible repeat (first | refine blk_drewN ?_ _ | refine blk_drew ?_ | refine blk_alloc ?_ _)); refine blk_far ?_ NB287_325.out _; (with_reducible repeat (first | refine blk_drewN ?_ _ | refine blk_drew ?_ | refine blk_alloc ?_ _)); refine blk_far ?_ NB287_325.out _; (with_reducible repeat (first | refine blk_drewN ?_ _ | refine blk_drew ?_ | refine blk_alloc ?_ _)); refine blk_far ?_ NB287_325.out _; (with_reducible repeat (first | refine blk_drewN ?_ _ | refine blk_drew ?_ | refine blk_alloc ?_ _)); refine blk_far ?_ NB287_325.out _; (with_reducible repeat (first | refine blk_drewN ?_ _ | refine blk_drew ?_ | refine blk_alloc ?_ _)); exact BK287.out⟩
            have n3_ : Aside0 (((((w236.setCell ⟨gb325, 0, none⟩ (.string t320)).setCell ⟨gb325, 1, none⟩ (.int .i64 t321)).setCell ⟨gb325, 2, none⟩ (.int .i64 t322)).setCell ⟨gb325, 3, none⟩ (.string t323)).heap[gb300]? = some (.cells #[.int .i64 t293, .int .i64 t294, .int .i64 t295, .slice Ao17 t296.length co17] 50 (0, 0))) := ⟨by (with_reducible repeat (first | refine blk_drewN ?_ _ | refine blk_drew ?_ | refine blk_alloc ?_ _)); refine blk_far ?_ NB300_325.out _; (with_reducible repeat (first | refine blk_drewN ?_ _ | refine blk_drew ?_ | refine blk_alloc ?_ _)); refine blk_far ?_ NB300_325.out _; (with_reducible repeat (first | refine blk_drewN ?_ _ | refine blk_drew ?_ | refine blk_alloc ?_ _)); refine blk_far ?_ NB300_325.out _; (with_reducible repeat (first | refine blk_drewN ?_ _ | refine blk_drew ?_ | refine blk_alloc ?_ _)); refine blk_far ?_ NB300_325.out _; (with_reducible repeat (first | refine blk_drewN ?_ _ | refine blk_drew ?_ | refine blk_alloc ?_ _)); exact BK300.out⟩
            have n4_ : Aside0 (((((w236.setCell ⟨gb325, 0, none⟩ (.string t320)).setCell ⟨gb325, 1, none⟩ (.int .i64 t321)).setCell ⟨gb325, 2, none⟩ (.int .i64 t322)).setCell ⟨gb325, 3, none⟩ (.string t323)).heap[gb311]? = some (.cells #[.string t306, .int .i64 t307, .int .i64 t308, .string t309] 34 (0, 0))) := ⟨by (with_reducible repeat (first | refine blk_drewN ?_ _ | refine blk_drew ?_ | refine blk_alloc ?_ _)); refine blk_far ?_ NB311_325.out _; (with_reducible repeat (first | refine blk_drewN ?_ _ | refine blk_drew ?_ | refine blk_alloc ?_ _)); refine blk_far ?_ NB311_325.out _; (with_reducible repeat (first | refine blk_drewN ?_ _ | refine blk_drew ?_ | refine blk_alloc ?_ _)); refine blk_far ?_ NB311_325.out _; (with_reducible repeat (first | refine blk_drewN ?_ _ | refine blk_drew ?_ | refine blk_alloc ?_ _)); refine blk_far ?_ NB311_325.out _; (with_reducible repeat (first | refine blk_drewN ?_ _ | refine blk_drew ?_ | refine blk_alloc ?_ _)); exact BK311.out⟩
            have n5_ : Aside0 (((((w236.setCell ⟨gb325, 0, none⟩ (.string t320)).setCell ⟨gb325, 1, none⟩ (.int .i64 t321)).setCell ⟨gb325, 2, none⟩ (.int .i64 t322)).setCell ⟨gb325, 3, none⟩ (.string t323)).heap[gb318]? = some (.cells #[.string t313, .int .i64 t314, .int .i64 t315, .string t316] 34 (0, 0))) := ⟨by (with_reducible repeat (first | refine blk_drewN ?_ _ | refine blk_drew ?_ | refine blk_alloc ?_ _)); refine blk_far ?_ NB318_325.out _; (with_reducible repeat (first | refine blk_drewN ?_ _ | refine blk_drew ?_ | refine blk_alloc ?_ _)); refine blk_far ?_ NB318_325.out _; (with_reducible repeat (first | refine blk_drewN ?_ _ | refine blk_drew ?_ | refine blk_alloc ?_ _)); refine blk_far ?_ NB318_325.out _; (with_reducible repeat (first | refine blk_drewN ?_ _ | refine blk_drew ?_ | refine blk_alloc ?_ _)); refine blk_far ?_ NB318_325.out _; (with_reducible repeat (first | refine blk_drewN ?_ _ | refine blk_drew ?_ | refine blk_alloc ?_ _)); exact BK318.out⟩
            have n6_ : Aside0 (((((w236.setCell ⟨gb325, 0, none⟩ (.string t320)).setCell ⟨gb325, 1, none⟩ (.int .i64 t321)).setCell ⟨gb325, 2, none⟩ (.int .i64 t322)).setCell ⟨gb325, 3, none⟩ (.string t323)).heap[gb325]? = some (.cells #[.string t320, .int .i64 t321, .int .i64 t322, .string t323] 34 (0, 0))) := ⟨by (with_reducible repeat (first | refine blk_drewN ?_ _ | refine blk_drew ?_ | refine blk_alloc ?_ _)); refine blk_put (cs := #[.string t320, .int .i64 t321, .int .i64 t322, .string (⟨#[]⟩ : ByteArray)]) ?_ 3 _ rfl; (with_reducible repeat (first | refine blk_drewN ?_ _ | refine blk_drew ?_ | refine blk_alloc ?_ _)); refine blk_put (cs := #[.string t320, .int .i64 t321, .int .i64 0, .string (⟨#[]⟩ : ByteArray)]) ?_ 2 _ rfl; (with_reducible repeat (first | refine blk_drewN ?_ _ | refine blk_drew ?_ | refine blk_alloc ?_ _)); refine blk_put (cs := #[.string t320, .int .i64 0, .int .i64 0, .string (⟨#[]⟩ : ByteArray)]) ?_ 1 _ rfl; (with_reducible repeat (first | refine blk_drewN ?_ _ | refine blk_drew ?_ | refine blk_alloc ?_ _)); refine blk_put (cs := #[.string (⟨#[]⟩ : ByteArray), .int .i64 0, .int .i64 0, .string (⟨#[]⟩ : ByteArray)]) ?_ 0 _ rfl; (with_reducible repeat (first | refine blk_drewN ?_ _ | refine blk_drew ?_ | refine blk_alloc ?_ _)); exact BK325.out⟩
            have n7_ : Aside0 (Below w.heap.size w ((((w236.setCell ⟨gb325, 0, none⟩ (.string t320)).setCell ⟨gb325, 1, none⟩ (.int .i64 t321)).setCell ⟨gb325, 2, none⟩ (.int .i64 t322)).setCell ⟨gb325, 3, none⟩ (.string t323))) := ⟨by repeat (first | (with_reducible first | exact HB.out | apply below_alloc | apply pw_below_drewN | apply below_drew1 | refine below_set ?_ GE287.out | refine below_set ?_ GE300.out | refine below_set ?_ GE311.out | refine below_set ?_ GE318.out | refine below_set ?_ GE325.out) | exact HB.out)⟩
            (try clear HO_9)
            (try clear HO_301003)
            (try clear BK287)
            (try clear BK300)
            (try clear BK311)
            (try clear BK318)
            (try clear BK325)
            (try clear HB)
            generalize ((((w236.setCell ⟨gb325, 0, none⟩ (.string t320)).setCell ⟨gb325, 1, none⟩ (.int .i64 t321)).setCell ⟨gb325, 2, none⟩ (.int .i64 t322)).setCell ⟨gb325, 3, none⟩ (.string t323)) = w241 at n0_ n1_ n2_ n3_ n4_ n5_ n6_ n7_ ⊢
            have HO_9 := n0_; have HO_301003 := n1_; have BK287 := n2_; have BK300 := n3_; have BK311 := n4_; have BK318 := n5_; have BK325 := n6_; have HB := n7_; clear n0_ n1_ n2_ n3_ n4_ n5_ n6_ n7_
            have n0_ := Aside0.mk (Kd.R_drew HO_9.out)
            have n1_ := Aside0.mk (Kd.R_drew HO_301003.out)
            have n2_ := Aside0.mk (blk_drew BK287.out)
            have n3_ := Aside0.mk (blk_drew BK300.out)
            have n4_ := Aside0.mk (blk_drew BK311.out)
            have n5_ := Aside0.mk (blk_drew BK318.out)
            have n6_ := Aside0.mk (blk_drew BK325.out)
            have n7_ := Aside0.mk (below_drew1 HB.out)
            clear HO_9; clear HO_301003; clear BK287; clear BK300; clear BK311; clear BK318; clear BK325; clear HB; have HO_9 := n0_; have HO_301003 := n1_; have BK287 := n2_; have BK300 := n3_; have BK311 := n4_; have BK318 := n5_; have BK325 := n6_; have HB := n7_; clear n0_ n1_ n2_ n3_ n4_ n5_ n6_ n7_
            have p326 : 0 ≤ (x10_1 : Int) := of_decide_eq_true (by first | (with_reducible assumption) | assumption)
            have q326 : x10_1 < (y301.length : Int) := of_decide_eq_true (by first | (with_reducible assumption) | assumption)
            obtain ⟨ad326, e326, hx326_0⟩ := Kd.at_string (Kd.R_reads' HO_9.out).2.2 x10_1 p326 q326
            obtain rfl : ad305 = ad326 := (by injection e326)
            replace p326 := eq_true p326; replace q326 := eq_true q326
            refine start_ (n := 12) (S := fun w' => w'.cell? ⟨gb300, 0, none⟩ = some (.int .i64 t293) ∧ w'.cell? ⟨gb300, 1, none⟩ = some (.int .i64 t294) ∧ w'.cell? ⟨gb300, 2, none⟩ = some (.int .i64 t295) ∧ w'.cell? ⟨gb300, 3, none⟩ = some (.slice Ao17 t296.length co17) ∧ w'.cell? (ad305.add (x10_1).toNat) = some (.string (rdOf ByteArray.empty y301 x10_1))) (ds := []) #[false, false, false, false, false, false, false, false, false, false, false, false] (by kernel_rfl) rfl rfl ⟨(blk_cell BK300.out 0).trans rfl, (blk_cell BK300.out 1).trans rfl, (blk_cell BK300.out 2).trans rfl, (blk_cell BK300.out 3).trans rfl, hx326_0⟩ (fun hHeld => ?_); refine with_tabW kauditlaw03_RecordGets.tab12 kauditlaw03_RecordGets.bits12 (fun HT_ HW_ => ?_)
            generalize w241.drew = w242 at HO_9 HO_301003 BK287 BK300 BK311 BK318 BK325 HB hx326_0 hHeld ⊢
            refine pure_ (i := 1) (N := some 64) (v := ?_) (a' := ?_) #[false, true, false, false, false, false, false, false, false, false, false, false] rfl rfl (any_of HT_.out (by kernel_rfl)) (fun _ _ _ h => h) (Or.inl ⟨by rfl, ?_⟩) ?_ ?_
            rotate_left
            · intro w'; go_simp; with_reducible rfl
            rotate_left
            · simp only [Act.put, List.setIfInBounds_toArray, List.set_cons_zero, List.set_cons_succ, i64_w, i32_w]; rfl
            refine pure_ (i := 2) (N := some 65) (v := ?_) (a' := ?_) #[false, true, true, false, false, false, false, false, false, false, false, false] rfl rfl (any_of HT_.out (by kernel_rfl)) (fun _ _ _ h => h) (Or.inl ⟨by rfl, ?_⟩) ?_ ?_
            rotate_left
            · intro w'; go_simp; with_reducible rfl
            rotate_left
            · simp only [Act.put, List.setIfInBounds_toArray, List.set_cons_zero, List.set_cons_succ, i64_w, i32_w]; rfl
            refine pure_ (i := 3) (N := some 66) (v := ?_) (a' := ?_) #[false, true, true, true, false, false, false, false, false, false, false, false] rfl rfl (any_of HT_.out (by kernel_rfl)) (fun _ _ _ h => h) (Or.inl ⟨by rfl, ?_⟩) ?_ ?_
            rotate_left
            · intro w'; go_simp; with_reducible rfl
            rotate_left
            · simp only [Act.put, List.setIfInBounds_toArray, List.set_cons_zero, List.set_cons_succ, i64_w, i32_w]; rfl
            refine take_ (i := 0) (N := some 63) (v := ?_) (a' := ?_) #[true, true, true, true, false, false, false, false, false, false, false, false] rfl rfl (take_ofW HT_.out HW_.out (by kernel_rfl)) (fun _ _ _ h => h) (Or.inl ⟨by rfl, ?_⟩) hHeld ?_ ?_
            rotate_left
            · rintro w' ⟨s0, s1, s2, s3, s4⟩
              go_simp; with_reducible rfl
            rotate_left
            · simp only [Act.put, List.setIfInBounds_toArray, List.set_cons_zero, List.set_cons_succ, i64_w, i32_w]; rfl
            refine take_ (i := 4) (N := some 67) (v := ?_) (a' := ?_) #[true, true, true, true, true, false, false, false, false, false, false, false] rfl rfl (take_ofW HT_.out HW_.out (by kernel_rfl)) (fun _ _ _ h => h) (Or.inl ⟨by rfl, ?_⟩) hHeld ?_ ?_
            rotate_left
            · rintro w' ⟨s0, s1, s2, s3, s4⟩
              go_simp; with_reducible rfl
            rotate_left
            · simp only [Act.put, List.setIfInBounds_toArray, List.set_cons_zero, List.set_cons_succ, i64_w, i32_w]; rfl
            refine join_ (σ := Nat) 2 #[true, true, true, true, true, true, true, true, true, true, false, false] (fun s_ => [(68, .tuple #[.agg #[.string t327, .int .i64 t328, .int .i64 t329, .string t330], .bool t331]), (17, .pointer (some ⟨s_, 0, none⟩)), (62, .tuple #[.agg #[.string t327, .int .i64 t328, .int .i64 t329, .string t330], .bool t331]), (69, .agg #[.string t327, .int .i64 t328, .int .i64 t329, .string t330]), (70, .bool t331)]) (fun s_ w' => (w'.cell? ⟨gb300, 0, none⟩ = some (.int .i64 t293) ∧ w'.cell? ⟨gb300, 1, none⟩ = some (.int .i64 t294) ∧ w'.cell? ⟨gb300, 2, none⟩ = some (.int .i64 t295) ∧ w'.cell? ⟨gb300, 3, none⟩ = some (.slice Ao17 t296.length co17) ∧ w'.cell? (ad305.add (x10_1).toNat) = some (.string (rdOf ByteArray.empty y301 x10_1))) ∧ (Kd.R k34 34 w' w.heap.size (fun k_ => k_ ≠ gb311 ∧ k_ ≠ gb318 ∧ k_ ≠ gb325 ∧ k_ ≠ s_) (.slice Ao17 t296.length co17) t296) ∧ (Kd.R Kd.string 9 w' w.heap.size (fun _ => True) (.slice (some ad305) y301.length co214) y301) ∧ (w'.heap[gb287]? = some (.cells #[.int .i64 a0_0, .int .i64 a0_1, .int .i64 a0_2, .slice A0_3 l0_3.length c0_3] 50 (0, 0))) ∧ (w'.heap[gb300]? = some (.cells #[.int .i64 t293, .int .i64 t294, .int .i64 t295, .slice Ao17 t296.length co17] 50 (0, 0))) ∧ (w'.heap[gb311]? = some (.cells #[.string t306, .int .i64 t307, .int .i64 t308, .string t309] 34 (0, 0))) ∧ (w'.heap[gb318]? = some (.cells #[.string t313, .int .i64 t314, .int .i64 t315, .string t316] 34 (0, 0))) ∧ (w'.heap[gb325]? = some (.cells #[.string t320, .int .i64 t321, .int .i64 t322, .string t323] 34 (0, 0))) ∧ (w'.heap[s_]? = some (.cells #[.string (⟨#[]⟩ : ByteArray), .int .i64 0, .int .i64 0, .string (⟨#[]⟩ : ByteArray)] 34 (0, 0))) ∧ (w.heap.size ≤ s_) ∧ (w.heap.size ≤ s_) ∧ (gb287 ≠ s_) ∧ (s_ ≠ gb287) ∧ (gb300 ≠ s_) ∧ (s_ ≠ gb300) ∧ (gb311 ≠ s_) ∧ (s_ ≠ gb311) ∧ (gb318 ≠ s_) ∧ (s_ ≠ gb318) ∧ (gb325 ≠ s_) ∧ (s_ ≠ gb325) ∧ (Below w.heap.size w w')) ?_ ?_
            rotate_left
            · intro hCont
              refine two_ (i := 5) (j := 9) (Ni := some 68) (Nj := some 17) #[true, true, true, true, true, true, false, false, false, false, false, false] #[true, true, true, true, true, false, false, false, false, true, false, false] rfl rfl rfl rfl (two_of HT_.out (by kernel_rfl)) (by decide) (by decide) (fun K hK => ?_) (fun K hK => ?_)
              · skip
                refine goes_ Tryd.func39 (by kernel_rfl) rfl #[.agg #[.int .i64 t293, .int .i64 t294, .int .i64 t295, .slice Ao17 t296.length co17], .string (rdOf ByteArray.empty y301 x10_1)] (by rfl) rfl rfl (by (try simp only [List.map_toArray, List.map_cons, List.map_nil]); first | done | rfl | (simp only [List.length_drop, List.length_take]; rfl)) ?_
                with_reducible refine (kauditref03_Get.calls k1 t293 t294 t295 _ _ t296 (rdOf ByteArray.empty y301 x10_1) t327 t328 t329 t330 t331 _ ?side1 ?side2 A25.out).mono ?_
                (case side1 => repeat (first | exact (Kd.R_reads' HO_301003.out).2.2 | (with_reducible refine Kd.C_alloc ?_ _) | (with_reducible refine Kd.C_drewN ?_ _) | (with_reducible refine Kd.C_drew ?_)))
                (case side2 => exact (Kd.R_reads' HO_301003.out).2.1)
                rintro e w243 ⟨rfl, hb⟩
                have HS4_ := (hb.cell (World.block_lt_of_cell? _ _ (hHeld.2.2.2.2))).trans (hHeld.2.2.2.2)
                refine ⟨_, rfl, ?_⟩
                have n0_ := Aside0.mk (Kd.R_below (by (with_reducible repeat (first | apply Kd.R_alloc | apply Kd.R_drewN | apply Kd.R_drew)); exact HO_9.out) hb)
                have n1_ := Aside0.mk (Kd.R_below (by (with_reducible repeat (first | apply Kd.R_alloc | apply Kd.R_drewN | apply Kd.R_drew)); exact HO_301003.out) hb)
                have n2_ := Aside0.mk (blk_below (g := gb287) (o := .cells #[.int .i64 a0_0, .int .i64 a0_1, .int .i64 a0_2, .slice A0_3 l0_3.length c0_3] 50 (0, 0)) (by (with_reducible repeat (first | refine blk_drewN ?_ _ | refine blk_drew ?_ | refine blk_alloc ?_ _)); exact BK287.out) hb)
                have n3_ := Aside0.mk (blk_below (g := gb300) (o := .cells #[.int .i64 t293, .int .i64 t294, .int .i64 t295, .slice Ao17 t296.length co17] 50 (0, 0)) (by (with_reducible repeat (first | refine blk_drewN ?_ _ | refine blk_drew ?_ | refine blk_alloc ?_ _)); exact BK300.out) hb)
                have n4_ := Aside0.mk (blk_below (g := gb311) (o := .cells #[.string t306, .int .i64 t307, .int .i64 t308, .string t309] 34 (0, 0)) (by (with_reducible repeat (first | refine blk_drewN ?_ _ | refine blk_drew ?_ | refine blk_alloc ?_ _)); exact BK311.out) hb)
                have n5_ := Aside0.mk (blk_below (g := gb318) (o := .cells #[.string t313, .int .i64 t314, .int .i64 t315, .string t316] 34 (0, 0)) (by (with_reducible repeat (first | refine blk_drewN ?_ _ | refine blk_drew ?_ | refine blk_alloc ?_ _)); exact BK318.out) hb)
                have n6_ := Aside0.mk (blk_below (g := gb325) (o := .cells #[.string t320, .int .i64 t321, .int .i64 t322, .string t323] 34 (0, 0)) (by (with_reducible repeat (first | refine blk_drewN ?_ _ | refine blk_drew ?_ | refine blk_alloc ?_ _)); exact BK325.out) hb)
                have n7_ := Aside0.mk (below_step (by repeat (first | (with_reducible first | exact HB.out | apply below_alloc | apply pw_below_drewN | apply below_drew1 | refine below_set ?_ GE287.out | refine below_set ?_ GE300.out | refine below_set ?_ GE311.out | refine below_set ?_ GE318.out | refine below_set ?_ GE325.out) | exact HB.out)) hb)
                clear HO_9; clear HO_301003; clear BK287; clear BK300; clear BK311; clear BK318; clear BK325; clear HB; have HO_9 := n0_; have HO_301003 := n1_; have BK287 := n2_; have BK300 := n3_; have BK311 := n4_; have BK318 := n5_; have BK325 := n6_; have HB := n7_; clear n0_ n1_ n2_ n3_ n4_ n5_ n6_ n7_
                (try clear hb)
                (try clear hb2)
                (try clear hk)
                (try clear hi)
                refine hK.out _ _ ⟨(blk_cell BK300.out 0).trans rfl, (blk_cell BK300.out 1).trans rfl, (blk_cell BK300.out 2).trans rfl, (blk_cell BK300.out 3).trans rfl, HS4_⟩ (fun hHeld => ?_)
                clear hK K
                refine norm_ (a' := ?_) ?_ ?_
                rotate_left
                · show Act.put _ (some 68) _ = _
                  simp only [Act.put, List.setIfInBounds_toArray, List.set_cons_zero, List.set_cons_succ, i64_w, i32_w]; rfl
                refine pure_ (i := 6) (N := some 62) (v := ?_) (a' := ?_) #[true, true, true, true, true, true, true, false, false, false, false, false] rfl rfl (any_of HT_.out (by kernel_rfl)) (fun _ _ _ h => h) (Or.inl ⟨by rfl, ?_⟩) ?_ ?_
                rotate_left
                · intro w'; go_simp; with_reducible rfl
                rotate_left
                · simp only [Act.put, List.setIfInBounds_toArray, List.set_cons_zero, List.set_cons_succ, i64_w, i32_w]; rfl
                refine pure_ (i := 7) (N := some 69) (v := ?_) (a' := ?_) #[true, true, true, true, true, true, true, true, false, false, false, false] rfl rfl (any_of HT_.out (by kernel_rfl)) (fun _ _ _ h => h) (Or.inl ⟨by rfl, ?_⟩) ?_ ?_
                rotate_left
                · intro w'; go_simp; with_reducible rfl
                rotate_left
                · simp only [Act.put, List.setIfInBounds_toArray, List.set_cons_zero, List.set_cons_succ, i64_w, i32_w]; rfl
                refine pure_ (i := 8) (N := some 70) (v := ?_) (a' := ?_) #[true, true, true, true, true, true, true, true, true, false, false, false] rfl rfl (any_of HT_.out (by kernel_rfl)) (fun _ _ _ h => h) (Or.inl ⟨by rfl, ?_⟩) ?_ ?_
                rotate_left
                · intro w'; go_simp; with_reducible rfl
                rotate_left
                · simp only [Act.put, List.setIfInBounds_toArray, List.set_cons_zero, List.set_cons_succ, i64_w, i32_w]; rfl
                refine one_ (i := 9) (N := some 17) #[true, true, true, true, true, true, true, true, true, true, false, false] rfl rfl (one_of HT_.out (by kernel_rfl)) (by decide) (fun K hK => ?_)
                refine box_step ?hg (N := 17) ?hd (cs := #[.string (⟨#[]⟩ : ByteArray), .int .i64 0, .int .i64 0, .string (⟨#[]⟩ : ByteArray)]) (t := 34) ?hr ?_; (case hd => rfl); (case hg => rfl); (case hr => first | (go_simp; done) | (go_simp; rfl))
                intro gb332 hg w244 hbox hb
                have HS4_ := (hb.cell (World.block_lt_of_cell? _ _ (hHeld.2.2.2.2))).trans (hHeld.2.2.2.2)
                have n0_ := Aside0.mk (Kd.R_below (by (with_reducible repeat (first | apply Kd.R_alloc | apply Kd.R_drewN | apply Kd.R_drew)); exact HO_9.out) hb)
                have n1_ := Aside0.mk (Kd.R_below (Kd.R_elderB (by (with_reducible repeat (first | apply Kd.R_alloc | apply Kd.R_drewN | apply Kd.R_drew)); exact HO_301003.out) gb332 (Nat.le_of_eq hg.symm)) hb)
                have n2_ := Aside0.mk (blk_below (g := gb287) (o := .cells #[.int .i64 a0_0, .int .i64 a0_1, .int .i64 a0_2, .slice A0_3 l0_3.length c0_3] 50 (0, 0)) (by (with_reducible repeat (first | refine blk_drewN ?_ _ | refine blk_drew ?_ | refine blk_alloc ?_ _)); exact BK287.out) hb)
                have n3_ := Aside0.mk (blk_below (g := gb300) (o := .cells #[.int .i64 t293, .int .i64 t294, .int .i64 t295, .slice Ao17 t296.length co17] 50 (0, 0)) (by (with_reducible repeat (first | refine blk_drewN ?_ _ | refine blk_drew ?_ | refine blk_alloc ?_ _)); exact BK300.out) hb)
                have n4_ := Aside0.mk (blk_below (g := gb311) (o := .cells #[.string t306, .int .i64 t307, .int .i64 t308, .string t309] 34 (0, 0)) (by (with_reducible repeat (first | refine blk_drewN ?_ _ | refine blk_drew ?_ | refine blk_alloc ?_ _)); exact BK311.out) hb)
                have n5_ := Aside0.mk (blk_below (g := gb318) (o := .cells #[.string t313, .int .i64 t314, .int .i64 t315, .string t316] 34 (0, 0)) (by (with_reducible repeat (first | refine blk_drewN ?_ _ | refine blk_drew ?_ | refine blk_alloc ?_ _)); exact BK318.out) hb)
                have n6_ := Aside0.mk (blk_below (g := gb325) (o := .cells #[.string t320, .int .i64 t321, .int .i64 t322, .string t323] 34 (0, 0)) (by (with_reducible repeat (first | refine blk_drewN ?_ _ | refine blk_drew ?_ | refine blk_alloc ?_ _)); exact BK325.out) hb)
                have n7_ := Aside0.mk (below_step (by repeat (first | (with_reducible first | exact HB.out | apply below_alloc | apply pw_below_drewN | apply below_drew1 | refine below_set ?_ GE287.out | refine below_set ?_ GE300.out | refine below_set ?_ GE311.out | refine below_set ?_ GE318.out | refine below_set ?_ GE325.out) | exact HB.out)) hb)
                have n8_ := Aside0.mk (hbox)
                have n9_ := Aside0.mk ((by rw [hg]; exact (below_size (by repeat (first | (with_reducible first | exact HB.out | apply below_alloc | apply pw_below_drewN | apply below_drew1 | refine below_set ?_ GE287.out | refine below_set ?_ GE300.out | refine below_set ?_ GE311.out | refine below_set ?_ GE318.out | refine below_set ?_ GE325.out) | exact HB.out))) : w.heap.size ≤ gb332))
                have n10_ := Aside0.mk ((by rw [hg]; exact (below_size (by repeat (first | (with_reducible first | exact HB.out | apply below_alloc | apply pw_below_drewN | apply below_drew1 | refine below_set ?_ GE287.out | refine below_set ?_ GE300.out | refine below_set ?_ GE311.out | refine below_set ?_ GE318.out | refine below_set ?_ GE325.out) | exact HB.out))) : w.heap.size ≤ gb332))
                have n11_ := Aside0.mk ((by rw [hg]; exact Nat.ne_of_lt (blk_lt (g := gb287) (o := .cells #[.int .i64 a0_0, .int .i64 a0_1, .int .i64 a0_2, .slice A0_3 l0_3.length c0_3] 50 (0, 0)) (by (with_reducible repeat (first | refine blk_drewN ?_ _ | refine blk_drew ?_ | refine blk_alloc ?_ _)); exact BK287.out)) : gb287 ≠ gb332))
                have n12_ := Aside0.mk ((by rw [hg]; exact Nat.ne_of_gt (blk_lt (g := gb287) (o := .cells #[.int .i64 a0_0, .int .i64 a0_1, .int .i64 a0_2, .slice A0_3 l0_3.length c0_3] 50 (0, 0)) (by (with_reducible repeat (first | refine blk_drewN ?_ _ | refine blk_drew ?_ | refine blk_alloc ?_ _)); exact BK287.out)) : gb332 ≠ gb287))
                have n13_ := Aside0.mk ((by rw [hg]; exact Nat.ne_of_lt (blk_lt (g := gb300) (o := .cells #[.int .i64 t293, .int .i64 t294, .int .i64 t295, .slice Ao17 t296.length co17] 50 (0, 0)) (by (with_reducible repeat (first | refine blk_drewN ?_ _ | refine blk_drew ?_ | refine blk_alloc ?_ _)); exact BK300.out)) : gb300 ≠ gb332))
                have n14_ := Aside0.mk ((by rw [hg]; exact Nat.ne_of_gt (blk_lt (g := gb300) (o := .cells #[.int .i64 t293, .int .i64 t294, .int .i64 t295, .slice Ao17 t296.length co17] 50 (0, 0)) (by (with_reducible repeat (first | refine blk_drewN ?_ _ | refine blk_drew ?_ | refine blk_alloc ?_ _)); exact BK300.out)) : gb332 ≠ gb300))
                have n15_ := Aside0.mk ((by rw [hg]; exact Nat.ne_of_lt (blk_lt (g := gb311) (o := .cells #[.string t306, .int .i64 t307, .int .i64 t308, .string t309] 34 (0, 0)) (by (with_reducible repeat (first | refine blk_drewN ?_ _ | refine blk_drew ?_ | refine blk_alloc ?_ _)); exact BK311.out)) : gb311 ≠ gb332))
                have n16_ := Aside0.mk ((by rw [hg]; exact Nat.ne_of_gt (blk_lt (g := gb311) (o := .cells #[.string t306, .int .i64 t307, .int .i64 t308, .string t309] 34 (0, 0)) (by (with_reducible repeat (first | refine blk_drewN ?_ _ | refine blk_drew ?_ | refine blk_alloc ?_ _)); exact BK311.out)) : gb332 ≠ gb311))
                have n17_ := Aside0.mk ((by rw [hg]; exact Nat.ne_of_lt (blk_lt (g := gb318) (o := .cells #[.string t313, .int .i64 t314, .int .i64 t315, .string t316] 34 (0, 0)) (by (with_reducible repeat (first | refine blk_drewN ?_ _ | refine blk_drew ?_ | refine blk_alloc ?_ _)); exact BK318.out)) : gb318 ≠ gb332))
                have n18_ := Aside0.mk ((by rw [hg]; exact Nat.ne_of_gt (blk_lt (g := gb318) (o := .cells #[.string t313, .int .i64 t314, .int .i64 t315, .string t316] 34 (0, 0)) (by (with_reducible repeat (first | refine blk_drewN ?_ _ | refine blk_drew ?_ | refine blk_alloc ?_ _)); exact BK318.out)) : gb332 ≠ gb318))
                have n19_ := Aside0.mk ((by rw [hg]; exact Nat.ne_of_lt (blk_lt (g := gb325) (o := .cells #[.string t320, .int .i64 t321, .int .i64 t322, .string t323] 34 (0, 0)) (by (with_reducible repeat (first | refine blk_drewN ?_ _ | refine blk_drew ?_ | refine blk_alloc ?_ _)); exact BK325.out)) : gb325 ≠ gb332))
                have n20_ := Aside0.mk ((by rw [hg]; exact Nat.ne_of_gt (blk_lt (g := gb325) (o := .cells #[.string t320, .int .i64 t321, .int .i64 t322, .string t323] 34 (0, 0)) (by (with_reducible repeat (first | refine blk_drewN ?_ _ | refine blk_drew ?_ | refine blk_alloc ?_ _)); exact BK325.out)) : gb332 ≠ gb325))
                clear HO_9; clear HO_301003; clear BK287; clear BK300; clear BK311; clear BK318; clear BK325; clear HB; have HO_9 := n0_; have HO_301003 := n1_; have BK287 := n2_; have BK300 := n3_; have BK311 := n4_; have BK318 := n5_; have BK325 := n6_; have HB := n7_; have BK332 := n8_; have GW332 := n9_; have GE332 := n10_; have NB287_332 := n11_; have NB332_287 := n12_; have NB300_332 := n13_; have NB332_300 := n14_; have NB311_332 := n15_; have NB332_311 := n16_; have NB318_332 := n17_; have NB332_318 := n18_; have NB325_332 := n19_; have NB332_325 := n20_; clear n0_ n1_ n2_ n3_ n4_ n5_ n6_ n7_ n8_ n9_ n10_ n11_ n12_ n13_ n14_ n15_ n16_ n17_ n18_ n19_ n20_; clear hb hbox hg
                refine hK.out _ _ ⟨(blk_cell BK300.out 0).trans rfl, (blk_cell BK300.out 1).trans rfl, (blk_cell BK300.out 2).trans rfl, (blk_cell BK300.out 3).trans rfl, HS4_⟩ (fun hHeld => ?_)
                clear hK K
                refine norm_ (a' := ?_) ?_ ?_
                rotate_left
                · show Act.put _ (some 17) _ = _
                  simp only [Act.put, List.setIfInBounds_toArray, List.set_cons_zero, List.set_cons_succ, i64_w, i32_w]; rfl
                exact norm_ (by simp only [putAll, Act.put, List.setIfInBounds_toArray, List.set_cons_zero, List.set_cons_succ]) (hCont (gb332) _ ⟨hHeld, (by (with_reducible repeat (first | apply Kd.R_alloc | apply Kd.R_drewN | apply Kd.R_drew)); exact Kd.R_mono HO_301003.out (fun _ hk => ⟨hk.1.1, ⟨hk.1.2.1, ⟨hk.1.2.2, hk.2⟩⟩⟩)), (by (with_reducible repeat (first | apply Kd.R_alloc | apply Kd.R_drewN | apply Kd.R_drew)); exact HO_9.out), (by (with_reducible repeat (first | refine blk_drewN ?_ _ | refine blk_drew ?_ | refine blk_alloc ?_ _)); exact BK287.out), (by (with_reducible repeat (first | refine blk_drewN ?_ _ | refine blk_drew ?_ | refine blk_alloc ?_ _)); exact BK300.out), (by (with_reducible repeat (first | refine blk_drewN ?_ _ | refine blk_drew ?_ | refine blk_alloc ?_ _)); exact BK311.out), (by (with_reducible repeat (first | refine blk_drewN ?_ _ | refine blk_drew ?_ | refine blk_alloc ?_ _)); exact BK318.out), (by (with_reducible repeat (first | refine blk_drewN ?_ _ | refine blk_drew ?_ | refine blk_alloc ?_ _)); exact BK325.out), (by (with_reducible repeat (first | refine blk_drewN ?_ _ | refine blk_drew ?_ | refine blk_alloc ?_ _)); exact BK332.out), GW332.out, GE332.out, NB287_332.out, NB332_287.out, NB300_332.out, NB332_300.out, NB311_332.out, NB332_311.out, NB318_332.out, NB332_318.out, NB325_332.out, NB332_325.out, (by repeat (first | (with_reducible first | exact HB.out | apply below_alloc | apply pw_below_drewN | apply below_drew1 | refine below_set ?_ GE287.out | refine below_set ?_ GE300.out | refine below_set ?_ GE311.out | refine below_set ?_ GE318.out | refine below_set ?_ GE325.out | refine below_set ?_ GE332.out) | exact HB.out))⟩)
              · skip
                refine box_step ?hg (N := 17) ?hd (cs := #[.string (⟨#[]⟩ : ByteArray), .int .i64 0, .int .i64 0, .string (⟨#[]⟩ : ByteArray)]) (t := 34) ?hr ?_; (case hd => rfl); (case hg => rfl); (case hr => first | (go_simp; done) | (go_simp; rfl))
                intro gb332 hg w243 hbox hb
                have HS4_ := (hb.cell (World.block_lt_of_cell? _ _ (hHeld.2.2.2.2))).trans (hHeld.2.2.2.2)
                have n0_ := Aside0.mk (Kd.R_below (by (with_reducible repeat (first | apply Kd.R_alloc | apply Kd.R_drewN | apply Kd.R_drew)); exact HO_9.out) hb)
                have n1_ := Aside0.mk (Kd.R_below (Kd.R_elderB (by (with_reducible repeat (first | apply Kd.R_alloc | apply Kd.R_drewN | apply Kd.R_drew)); exact HO_301003.out) gb332 (Nat.le_of_eq hg.symm)) hb)
                have n2_ := Aside0.mk (blk_below (g := gb287) (o := .cells #[.int .i64 a0_0, .int .i64 a0_1, .int .i64 a0_2, .slice A0_3 l0_3.length c0_3] 50 (0, 0)) (by (with_reducible repeat (first | refine blk_drewN ?_ _ | refine blk_drew ?_ | refine blk_alloc ?_ _)); exact BK287.out) hb)
                have n3_ := Aside0.mk (blk_below (g := gb300) (o := .cells #[.int .i64 t293, .int .i64 t294, .int .i64 t295, .slice Ao17 t296.length co17] 50 (0, 0)) (by (with_reducible repeat (first | refine blk_drewN ?_ _ | refine blk_drew ?_ | refine blk_alloc ?_ _)); exact BK300.out) hb)
                have n4_ := Aside0.mk (blk_below (g := gb311) (o := .cells #[.string t306, .int .i64 t307, .int .i64 t308, .string t309] 34 (0, 0)) (by (with_reducible repeat (first | refine blk_drewN ?_ _ | refine blk_drew ?_ | refine blk_alloc ?_ _)); exact BK311.out) hb)
                have n5_ := Aside0.mk (blk_below (g := gb318) (o := .cells #[.string t313, .int .i64 t314, .int .i64 t315, .string t316] 34 (0, 0)) (by (with_reducible repeat (first | refine blk_drewN ?_ _ | refine blk_drew ?_ | refine blk_alloc ?_ _)); exact BK318.out) hb)
                have n6_ := Aside0.mk (blk_below (g := gb325) (o := .cells #[.string t320, .int .i64 t321, .int .i64 t322, .string t323] 34 (0, 0)) (by (with_reducible repeat (first | refine blk_drewN ?_ _ | refine blk_drew ?_ | refine blk_alloc ?_ _)); exact BK325.out) hb)
                have n7_ := Aside0.mk (below_step (by repeat (first | (with_reducible first | exact HB.out | apply below_alloc | apply pw_below_drewN | apply below_drew1 | refine below_set ?_ GE287.out | refine below_set ?_ GE300.out | refine below_set ?_ GE311.out | refine below_set ?_ GE318.out | refine below_set ?_ GE325.out) | exact HB.out)) hb)
                have n8_ := Aside0.mk (hbox)
                have n9_ := Aside0.mk ((by rw [hg]; exact (below_size (by repeat (first | (with_reducible first | exact HB.out | apply below_alloc | apply pw_below_drewN | apply below_drew1 | refine below_set ?_ GE287.out | refine below_set ?_ GE300.out | refine below_set ?_ GE311.out | refine below_set ?_ GE318.out | refine below_set ?_ GE325.out) | exact HB.out))) : w.heap.size ≤ gb332))
                have n10_ := Aside0.mk ((by rw [hg]; exact (below_size (by repeat (first | (with_reducible first | exact HB.out | apply below_alloc | apply pw_below_drewN | apply below_drew1 | refine below_set ?_ GE287.out | refine below_set ?_ GE300.out | refine below_set ?_ GE311.out | refine below_set ?_ GE318.out | refine below_set ?_ GE325.out) | exact HB.out))) : w.heap.size ≤ gb332))
                have n11_ := Aside0.mk ((by rw [hg]; exact Nat.ne_of_lt (blk_lt (g := gb287) (o := .cells #[.int .i64 a0_0, .int .i64 a0_1, .int .i64 a0_2, .slice A0_3 l0_3.length c0_3] 50 (0, 0)) (by (with_reducible repeat (first | refine blk_drewN ?_ _ | refine blk_drew ?_ | refine blk_alloc ?_ _)); exact BK287.out)) : gb287 ≠ gb332))
                have n12_ := Aside0.mk ((by rw [hg]; exact Nat.ne_of_gt (blk_lt (g := gb287) (o := .cells #[.int .i64 a0_0, .int .i64 a0_1, .int .i64 a0_2, .slice A0_3 l0_3.length c0_3] 50 (0, 0)) (by (with_reducible repeat (first | refine blk_drewN ?_ _ | refine blk_drew ?_ | refine blk_alloc ?_ _)); exact BK287.out)) : gb332 ≠ gb287))
                have n13_ := Aside0.mk ((by rw [hg]; exact Nat.ne_of_lt (blk_lt (g := gb300) (o := .cells #[.int .i64 t293, .int .i64 t294, .int .i64 t295, .slice Ao17 t296.length co17] 50 (0, 0)) (by (with_reducible repeat (first | refine blk_drewN ?_ _ | refine blk_drew ?_ | refine blk_alloc ?_ _)); exact BK300.out)) : gb300 ≠ gb332))
                have n14_ := Aside0.mk ((by rw [hg]; exact Nat.ne_of_gt (blk_lt (g := gb300) (o := .cells #[.int .i64 t293, .int .i64 t294, .int .i64 t295, .slice Ao17 t296.length co17] 50 (0, 0)) (by (with_reducible repeat (first | refine blk_drewN ?_ _ | refine blk_drew ?_ | refine blk_alloc ?_ _)); exact BK300.out)) : gb332 ≠ gb300))
                have n15_ := Aside0.mk ((by rw [hg]; exact Nat.ne_of_lt (blk_lt (g := gb311) (o := .cells #[.string t306, .int .i64 t307, .int .i64 t308, .string t309] 34 (0, 0)) (by (with_reducible repeat (first | refine blk_drewN ?_ _ | refine blk_drew ?_ | refine blk_alloc ?_ _)); exact BK311.out)) : gb311 ≠ gb332))
                have n16_ := Aside0.mk ((by rw [hg]; exact Nat.ne_of_gt (blk_lt (g := gb311) (o := .cells #[.string t306, .int .i64 t307, .int .i64 t308, .string t309] 34 (0, 0)) (by (with_reducible repeat (first | refine blk_drewN ?_ _ | refine blk_drew ?_ | refine blk_alloc ?_ _)); exact BK311.out)) : gb332 ≠ gb311))
                have n17_ := Aside0.mk ((by rw [hg]; exact Nat.ne_of_lt (blk_lt (g := gb318) (o := .cells #[.string t313, .int .i64 t314, .int .i64 t315, .string t316] 34 (0, 0)) (by (with_reducible repeat (first | refine blk_drewN ?_ _ | refine blk_drew ?_ | refine blk_alloc ?_ _)); exact BK318.out)) : gb318 ≠ gb332))
                have n18_ := Aside0.mk ((by rw [hg]; exact Nat.ne_of_gt (blk_lt (g := gb318) (o := .cells #[.string t313, .int .i64 t314, .int .i64 t315, .string t316] 34 (0, 0)) (by (with_reducible repeat (first | refine blk_drewN ?_ _ | refine blk_drew ?_ | refine blk_alloc ?_ _)); exact BK318.out)) : gb332 ≠ gb318))
                have n19_ := Aside0.mk ((by rw [hg]; exact Nat.ne_of_lt (blk_lt (g := gb325) (o := .cells #[.string t320, .int .i64 t321, .int .i64 t322, .string t323] 34 (0, 0)) (by (with_reducible repeat (first | refine blk_drewN ?_ _ | refine blk_drew ?_ | refine blk_alloc ?_ _)); exact BK325.out)) : gb325 ≠ gb332))
                have n20_ := Aside0.mk ((by rw [hg]; exact Nat.ne_of_gt (blk_lt (g := gb325) (o := .cells #[.string t320, .int .i64 t321, .int .i64 t322, .string t323] 34 (0, 0)) (by (with_reducible repeat (first | refine blk_drewN ?_ _ | refine blk_drew ?_ | refine blk_alloc ?_ _)); exact BK325.out)) : gb332 ≠ gb325))
                clear HO_9; clear HO_301003; clear BK287; clear BK300; clear BK311; clear BK318; clear BK325; clear HB; have HO_9 := n0_; have HO_301003 := n1_; have BK287 := n2_; have BK300 := n3_; have BK311 := n4_; have BK318 := n5_; have BK325 := n6_; have HB := n7_; have BK332 := n8_; have GW332 := n9_; have GE332 := n10_; have NB287_332 := n11_; have NB332_287 := n12_; have NB300_332 := n13_; have NB332_300 := n14_; have NB311_332 := n15_; have NB332_311 := n16_; have NB318_332 := n17_; have NB332_318 := n18_; have NB325_332 := n19_; have NB332_325 := n20_; clear n0_ n1_ n2_ n3_ n4_ n5_ n6_ n7_ n8_ n9_ n10_ n11_ n12_ n13_ n14_ n15_ n16_ n17_ n18_ n19_ n20_; clear hb hbox hg
                refine hK.out _ _ ⟨(blk_cell BK300.out 0).trans rfl, (blk_cell BK300.out 1).trans rfl, (blk_cell BK300.out 2).trans rfl, (blk_cell BK300.out 3).trans rfl, HS4_⟩ (fun hHeld => ?_)
                clear hK K
                refine norm_ (a' := ?_) ?_ ?_
                rotate_left
                · show Act.put _ (some 17) _ = _
                  simp only [Act.put, List.setIfInBounds_toArray, List.set_cons_zero, List.set_cons_succ, i64_w, i32_w]; rfl
                refine one_ (i := 5) (N := some 68) #[true, true, true, true, true, true, false, false, false, true, false, false] rfl rfl (one_of HT_.out (by kernel_rfl)) (by decide) (fun K hK => ?_)
                refine goes_ Tryd.func39 (by kernel_rfl) rfl #[.agg #[.int .i64 t293, .int .i64 t294, .int .i64 t295, .slice Ao17 t296.length co17], .string (rdOf ByteArray.empty y301 x10_1)] (by rfl) rfl rfl (by (try simp only [List.map_toArray, List.map_cons, List.map_nil]); first | done | rfl | (simp only [List.length_drop, List.length_take]; rfl)) ?_
                with_reducible refine (kauditref03_Get.calls k1 t293 t294 t295 _ _ t296 (rdOf ByteArray.empty y301 x10_1) t327 t328 t329 t330 t331 _ ?side1 ?side2 A25.out).mono ?_
                (case side1 => repeat (first | exact (Kd.R_reads' HO_301003.out).2.2 | (with_reducible refine Kd.C_alloc ?_ _) | (with_reducible refine Kd.C_drewN ?_ _) | (with_reducible refine Kd.C_drew ?_)))
                (case side2 => exact (Kd.R_reads' HO_301003.out).2.1)
                rintro e w244 ⟨rfl, hb⟩
                have HS4_ := (hb.cell (World.block_lt_of_cell? _ _ (hHeld.2.2.2.2))).trans (hHeld.2.2.2.2)
                refine ⟨_, rfl, ?_⟩
                have n0_ := Aside0.mk (Kd.R_below (by (with_reducible repeat (first | apply Kd.R_alloc | apply Kd.R_drewN | apply Kd.R_drew)); exact HO_9.out) hb)
                have n1_ := Aside0.mk (Kd.R_below (by (with_reducible repeat (first | apply Kd.R_alloc | apply Kd.R_drewN | apply Kd.R_drew)); exact HO_301003.out) hb)
                have n2_ := Aside0.mk (blk_below (g := gb287) (o := .cells #[.int .i64 a0_0, .int .i64 a0_1, .int .i64 a0_2, .slice A0_3 l0_3.length c0_3] 50 (0, 0)) (by (with_reducible repeat (first | refine blk_drewN ?_ _ | refine blk_drew ?_ | refine blk_alloc ?_ _)); exact BK287.out) hb)
                have n3_ := Aside0.mk (blk_below (g := gb300) (o := .cells #[.int .i64 t293, .int .i64 t294, .int .i64 t295, .slice Ao17 t296.length co17] 50 (0, 0)) (by (with_reducible repeat (first | refine blk_drewN ?_ _ | refine blk_drew ?_ | refine blk_alloc ?_ _)); exact BK300.out) hb)
                have n4_ := Aside0.mk (blk_below (g := gb311) (o := .cells #[.string t306, .int .i64 t307, .int .i64 t308, .string t309] 34 (0, 0)) (by (with_reducible repeat (first | refine blk_drewN ?_ _ | refine blk_drew ?_ | refine blk_alloc ?_ _)); exact BK311.out) hb)
                have n5_ := Aside0.mk (blk_below (g := gb318) (o := .cells #[.string t313, .int .i64 t314, .int .i64 t315, .string t316] 34 (0, 0)) (by (with_reducible repeat (first | refine blk_drewN ?_ _ | refine blk_drew ?_ | refine blk_alloc ?_ _)); exact BK318.out) hb)
                have n6_ := Aside0.mk (blk_below (g := gb325) (o := .cells #[.string t320, .int .i64 t321, .int .i64 t322, .string t323] 34 (0, 0)) (by (with_reducible repeat (first | refine blk_drewN ?_ _ | refine blk_drew ?_ | refine blk_alloc ?_ _)); exact BK325.out) hb)
                have n7_ := Aside0.mk (blk_below (g := gb332) (o := .cells #[.string (⟨#[]⟩ : ByteArray), .int .i64 0, .int .i64 0, .string (⟨#[]⟩ : ByteArray)] 34 (0, 0)) (by (with_reducible repeat (first | refine blk_drewN ?_ _ | refine blk_drew ?_ | refine blk_alloc ?_ _)); exact BK332.out) hb)
                have n8_ := Aside0.mk (below_step (by repeat (first | (with_reducible first | exact HB.out | apply below_alloc | apply pw_below_drewN | apply below_drew1 | refine below_set ?_ GE287.out | refine below_set ?_ GE300.out | refine below_set ?_ GE311.out | refine below_set ?_ GE318.out | refine below_set ?_ GE325.out | refine below_set ?_ GE332.out) | exact HB.out)) hb)
                clear HO_9; clear HO_301003; clear BK287; clear BK300; clear BK311; clear BK318; clear BK325; clear BK332; clear HB; have HO_9 := n0_; have HO_301003 := n1_; have BK287 := n2_; have BK300 := n3_; have BK311 := n4_; have BK318 := n5_; have BK325 := n6_; have BK332 := n7_; have HB := n8_; clear n0_ n1_ n2_ n3_ n4_ n5_ n6_ n7_ n8_
                (try clear hb)
                (try clear hb2)
                (try clear hk)
                (try clear hi)
                refine hK.out _ _ ⟨(blk_cell BK300.out 0).trans rfl, (blk_cell BK300.out 1).trans rfl, (blk_cell BK300.out 2).trans rfl, (blk_cell BK300.out 3).trans rfl, HS4_⟩ (fun hHeld => ?_)
                clear hK K
                refine norm_ (a' := ?_) ?_ ?_
                rotate_left
                · show Act.put _ (some 68) _ = _
                  simp only [Act.put, List.setIfInBounds_toArray, List.set_cons_zero, List.set_cons_succ, i64_w, i32_w]; rfl
                refine pure_ (i := 6) (N := some 62) (v := ?_) (a' := ?_) #[true, true, true, true, true, true, true, false, false, true, false, false] rfl rfl (any_of HT_.out (by kernel_rfl)) (fun _ _ _ h => h) (Or.inl ⟨by rfl, ?_⟩) ?_ ?_
                rotate_left
                · intro w'; go_simp; with_reducible rfl
                rotate_left
                · simp only [Act.put, List.setIfInBounds_toArray, List.set_cons_zero, List.set_cons_succ, i64_w, i32_w]; rfl
                refine pure_ (i := 7) (N := some 69) (v := ?_) (a' := ?_) #[true, true, true, true, true, true, true, true, false, true, false, false] rfl rfl (any_of HT_.out (by kernel_rfl)) (fun _ _ _ h => h) (Or.inl ⟨by rfl, ?_⟩) ?_ ?_
                rotate_left
                · intro w'; go_simp; with_reducible rfl
                rotate_left
                · simp only [Act.put, List.setIfInBounds_toArray, List.set_cons_zero, List.set_cons_succ, i64_w, i32_w]; rfl
                refine pure_ (i := 8) (N := some 70) (v := ?_) (a' := ?_) #[true, true, true, true, true, true, true, true, true, true, false, false] rfl rfl (any_of HT_.out (by kernel_rfl)) (fun _ _ _ h => h) (Or.inl ⟨by rfl, ?_⟩) ?_ ?_
                rotate_left
                · intro w'; go_simp; with_reducible rfl
                rotate_left
                · simp only [Act.put, List.setIfInBounds_toArray, List.set_cons_zero, List.set_cons_succ, i64_w, i32_w]; rfl
                exact norm_ (by simp only [putAll, Act.put, List.setIfInBounds_toArray, List.set_cons_zero, List.set_cons_succ]) (hCont (gb332) _ ⟨hHeld, (by (with_reducible repeat (first | apply Kd.R_alloc | apply Kd.R_drewN | apply Kd.R_drew)); exact Kd.R_mono HO_301003.out (fun _ hk => ⟨hk.1.1, ⟨hk.1.2.1, ⟨hk.1.2.2, hk.2⟩⟩⟩)), (by (with_reducible repeat (first | apply Kd.R_alloc | apply Kd.R_drewN | apply Kd.R_drew)); exact HO_9.out), (by (with_reducible repeat (first | refine blk_drewN ?_ _ | refine blk_drew ?_ | refine blk_alloc ?_ _)); exact BK287.out), (by (with_reducible repeat (first | refine blk_drewN ?_ _ | refine blk_drew ?_ | refine blk_alloc ?_ _)); exact BK300.out), (by (with_reducible repeat (first | refine blk_drewN ?_ _ | refine blk_drew ?_ | refine blk_alloc ?_ _)); exact BK311.out), (by (with_reducible repeat (first | refine blk_drewN ?_ _ | refine blk_drew ?_ | refine blk_alloc ?_ _)); exact BK318.out), (by (with_reducible repeat (first | refine blk_drewN ?_ _ | refine blk_drew ?_ | refine blk_alloc ?_ _)); exact BK325.out), (by (with_reducible repeat (first | refine blk_drewN ?_ _ | refine blk_drew ?_ | refine blk_alloc ?_ _)); exact BK332.out), GW332.out, GE332.out, NB287_332.out, NB332_287.out, NB300_332.out, NB332_300.out, NB311_332.out, NB332_311.out, NB318_332.out, NB332_318.out, NB325_332.out, NB332_325.out, (by repeat (first | (with_reducible first | exact HB.out | apply below_alloc | apply pw_below_drewN | apply below_drew1 | refine below_set ?_ GE287.out | refine below_set ?_ GE300.out | refine below_set ?_ GE311.out | refine below_set ?_ GE318.out | refine below_set ?_ GE325.out | refine below_set ?_ GE332.out) | exact HB.out))⟩)
            rintro gb332 w245 ⟨hS_, h0_, h1_, h2_, h3_, h4_, h5_, h6_, h7_, h8_, h9_, h10_, h11_, h12_, h13_, h14_, h15_, h16_, h17_, h18_, h19_, h20_⟩
            have n0_ : Aside0 (Kd.R k34 34 w245 w.heap.size (fun k_ => k_ ≠ gb311 ∧ k_ ≠ gb318 ∧ k_ ≠ gb325 ∧ k_ ≠ gb332) (.slice Ao17 t296.length co17) t296) := ⟨h0_⟩
            have n1_ : Aside0 (Kd.R Kd.string 9 w245 w.heap.size (fun _ => True) (.slice (some ad305) y301.length co214) y301) := ⟨h1_⟩
            have n2_ : Aside0 (w245.heap[gb287]? = some (.cells #[.int .i64 a0_0, .int .i64 a0_1, .int .i64 a0_2, .slice A0_3 l0_3.length c0_3] 50 (0, 0))) := ⟨h2_⟩
            have n3_ : Aside0 (w245.heap[gb300]? = some (.cells #[.int .i64 t293, .int .i64 t294, .int .i64 t295, .slice Ao17 t296.length co17] 50 (0, 0))) := ⟨h3_⟩
            have n4_ : Aside0 (w245.heap[gb311]? = some (.cells #[.string t306, .int .i64 t307, .int .i64 t308, .string t309] 34 (0, 0))) := ⟨h4_⟩
            have n5_ : Aside0 (w245.heap[gb318]? = some (.cells #[.string t313, .int .i64 t314, .int .i64 t315, .string t316] 34 (0, 0))) := ⟨h5_⟩
            have n6_ : Aside0 (w245.heap[gb325]? = some (.cells #[.string t320, .int .i64 t321, .int .i64 t322, .string t323] 34 (0, 0))) := ⟨h6_⟩
            have n7_ : Aside0 (w245.heap[gb332]? = some (.cells #[.string (⟨#[]⟩ : ByteArray), .int .i64 0, .int .i64 0, .string (⟨#[]⟩ : ByteArray)] 34 (0, 0))) := ⟨h7_⟩
            have n8_ : Aside0 (w.heap.size ≤ gb332) := ⟨h8_⟩
            have n9_ : Aside0 (w.heap.size ≤ gb332) := ⟨h9_⟩
            have n10_ : Aside0 (gb287 ≠ gb332) := ⟨h10_⟩
            have n11_ : Aside0 (gb332 ≠ gb287) := ⟨h11_⟩
            have n12_ : Aside0 (gb300 ≠ gb332) := ⟨h12_⟩
            have n13_ : Aside0 (gb332 ≠ gb300) := ⟨h13_⟩
            have n14_ : Aside0 (gb311 ≠ gb332) := ⟨h14_⟩
            have n15_ : Aside0 (gb332 ≠ gb311) := ⟨h15_⟩
            have n16_ : Aside0 (gb318 ≠ gb332) := ⟨h16_⟩
            have n17_ : Aside0 (gb332 ≠ gb318) := ⟨h17_⟩
            have n18_ : Aside0 (gb325 ≠ gb332) := ⟨h18_⟩
            have n19_ : Aside0 (gb332 ≠ gb325) := ⟨h19_⟩
            have n20_ : Aside0 (Below w.heap.size w w245) := ⟨h20_⟩
            clear HO_9; clear HO_301003; clear BK287; clear BK300; clear BK311; clear BK318; clear BK325; clear HB; clear h0_ h1_ h2_ h3_ h4_ h5_ h6_ h7_ h8_ h9_ h10_ h11_ h12_ h13_ h14_ h15_ h16_ h17_ h18_ h19_ h20_; have HO_301003 := n0_; have HO_9 := n1_; have BK287 := n2_; have BK300 := n3_; have BK311 := n4_; have BK318 := n5_; have BK325 := n6_; have BK332 := n7_; have GW332 := n8_; have GE332 := n9_; have NB287_332 := n10_; have NB332_287 := n11_; have NB300_332 := n12_; have NB332_300 := n13_; have NB311_332 := n14_; have NB332_311 := n15_; have NB318_332 := n16_; have NB332_318 := n17_; have NB325_332 := n18_; have NB332_325 := n19_; have HB := n20_; clear n0_ n1_ n2_ n3_ n4_ n5_ n6_ n7_ n8_ n9_ n10_ n11_ n12_ n13_ n14_ n15_ n16_ n17_ n18_ n19_ n20_
            have hHeld : w245.cell? ⟨gb300, 0, none⟩ = some (.int .i64 t293) ∧ w245.cell? ⟨gb300, 1, none⟩ = some (.int .i64 t294) ∧ w245.cell? ⟨gb300, 2, none⟩ = some (.int .i64 t295) ∧ w245.cell? ⟨gb300, 3, none⟩ = some (.slice Ao17 t296.length co17) ∧ w245.cell? (ad305.add (x10_1).toNat) = some (.string (rdOf ByteArray.empty y301 x10_1)) := hS_
            refine norm_ (a' := ?_) ?_ ?_
            rotate_left
            · simp only [putAll, Act.put, List.setIfInBounds_toArray, List.set_cons_zero, List.set_cons_succ]; rfl
            refine one_ (i := 10) (N := none) #[true, true, true, true, true, true, true, true, true, true, true, false] rfl rfl (one_of HT_.out (by kernel_rfl)) (by decide) (fun K hK => ?_)
            have hs246 : w245.cell? ⟨gb332, 0, none⟩ = some (.string (⟨#[]⟩ : ByteArray)) := (blk_cell BK332.out 0).trans rfl
            have hfs246 := blk_frozen BK332.out 0
            have hns246_0 := NB287_332.out; have hns246_1 := NB300_332.out; have hns246_2 := NB311_332.out; have hns246_3 := NB318_332.out; have hns246_4 := NB325_332.out; have hms246_0 := NB332_287.out; have hms246_1 := NB332_300.out; have hms246_2 := NB332_311.out; have hms246_3 := NB332_318.out; have hms246_4 := NB332_325.out
            have hs247 : w245.cell? ⟨gb332, 1, none⟩ = some (.int .i64 0) := (blk_cell BK332.out 1).trans rfl
            have hfs247 := blk_frozen BK332.out 1
            have hns247_0 := NB287_332.out; have hns247_1 := NB300_332.out; have hns247_2 := NB311_332.out; have hns247_3 := NB318_332.out; have hns247_4 := NB325_332.out; have hms247_0 := NB332_287.out; have hms247_1 := NB332_300.out; have hms247_2 := NB332_311.out; have hms247_3 := NB332_318.out; have hms247_4 := NB332_325.out
            have hs248 : w245.cell? ⟨gb332, 2, none⟩ = some (.int .i64 0) := (blk_cell BK332.out 2).trans rfl
            have hfs248 := blk_frozen BK332.out 2
            have hns248_0 := NB287_332.out; have hns248_1 := NB300_332.out; have hns248_2 := NB311_332.out; have hns248_3 := NB318_332.out; have hns248_4 := NB325_332.out; have hms248_0 := NB332_287.out; have hms248_1 := NB332_300.out; have hms248_2 := NB332_311.out; have hms248_3 := NB332_318.out; have hms248_4 := NB332_325.out
            have hs249 : w245.cell? ⟨gb332, 3, none⟩ = some (.string (⟨#[]⟩ : ByteArray)) := (blk_cell BK332.out 3).trans rfl
            have hfs249 := blk_frozen BK332.out 3
            have hns249_0 := NB287_332.out; have hns249_1 := NB300_332.out; have hns249_2 := NB311_332.out; have hns249_3 := NB318_332.out; have hns249_4 := NB325_332.out; have hms249_0 := NB332_287.out; have hms249_1 := NB332_300.out; have hms249_2 := NB332_311.out; have hms249_3 := NB332_318.out; have hms249_4 := NB332_325.out
            refine skip_ (w1 := ?_) (by rfl) rfl ?_ ?_
            rotate_left
            · go_simp; rfl
            refine hK.out _ _ ⟨((cell_far (p := ⟨gb332, _, none⟩) NB300_332.out _).trans (((cell_far (p := ⟨gb332, _, none⟩) NB300_332.out _).trans (((cell_far (p := ⟨gb332, _, none⟩) NB300_332.out _).trans (((cell_far (p := ⟨gb332, _, none⟩) NB300_332.out _).trans (hHeld.1)))))))), ((cell_far (p := ⟨gb332, _, none⟩) NB300_332.out _).trans (((cell_far (p := ⟨gb332, _, none⟩) NB300_332.out _).trans (((cell_far (p := ⟨gb332, _, none⟩) NB300_332.out _).trans (((cell_far (p := ⟨gb332, _, none⟩) NB300_332.out _).trans (hHeld.2.1)))))))), ((cell_far (p := ⟨gb332, _, none⟩) NB300_332.out _).trans (((cell_far (p := ⟨gb332, _, none⟩) NB300_332.out _).trans (((cell_far (p := ⟨gb332, _, none⟩) NB300_332.out _).trans (((cell_far (p := ⟨gb332, _, none⟩) NB300_332.out _).trans (hHeld.2.2.1)))))))), ((cell_far (p := ⟨gb332, _, none⟩) NB300_332.out _).trans (((cell_far (p := ⟨gb332, _, none⟩) NB300_332.out _).trans (((cell_far (p := ⟨gb332, _, none⟩) NB300_332.out _).trans (((cell_far (p := ⟨gb332, _, none⟩) NB300_332.out _).trans (hHeld.2.2.2.1)))))))), ((cell_far (p := ⟨gb332, _, none⟩) (by first | exact Kd.own_blk (Kd.R_ne HO_9.out BK332.out (by decide)) | (rw [add_block]; exact Kd.own_blk (Kd.R_ne HO_9.out BK332.out (by decide))) | (show (Addr.add _ _).block ≠ _; rw [add_block]; exact Kd.own_blk (Kd.R_ne HO_9.out BK332.out (by decide))) | (dsimp only; exact Kd.own_blk (Kd.R_ne HO_9.out BK332.out (by decide)))) _).trans (((cell_far (p := ⟨gb332, _, none⟩) (by first | exact Kd.own_blk (Kd.R_ne HO_9.out BK332.out (by decide)) | (rw [add_block]; exact Kd.own_blk (Kd.R_ne HO_9.out BK332.out (by decide))) | (show (Addr.add _ _).block ≠ _; rw [add_block]; exact Kd.own_blk (Kd.R_ne HO_9.out BK332.out (by decide))) | (dsimp only; exact Kd.own_blk (Kd.R_ne HO_9.out BK332.out (by decide)))) _).trans (((cell_far (p := ⟨gb332, _, none⟩) (by first | exact Kd.own_blk (Kd.R_ne HO_9.out BK332.out (by decide)) | (rw [add_block]; exact Kd.own_blk (Kd.R_ne HO_9.out BK332.out (by decide))) | (show (Addr.add _ _).block ≠ _; rw [add_block]; exact Kd.own_blk (Kd.R_ne HO_9.out BK332.out (by decide))) | (dsimp only; exact Kd.own_blk (Kd.R_ne HO_9.out BK332.out (by decide)))) _).trans (((cell_far (p := ⟨gb332, _, none⟩) (by first | exact Kd.own_blk (Kd.R_ne HO_9.out BK332.out (by decide)) | (rw [add_block]; exact Kd.own_blk (Kd.R_ne HO_9.out BK332.out (by decide))) | (show (Addr.add _ _).block ≠ _; rw [add_block]; exact Kd.own_blk (Kd.R_ne HO_9.out BK332.out (by decide))) | (dsimp only; exact Kd.own_blk (Kd.R_ne HO_9.out BK332.out (by decide)))) _).trans (hHeld.2.2.2.2))))))))⟩ (fun hHeld => ?_)
            clear hK K
            refine pure_ (i := 11) (N := some 18) (v := ?_) (a' := ?_) #[true, true, true, true, true, true, true, true, true, true, true, true] rfl rfl (any_of HT_.out (by kernel_rfl)) (fun _ _ _ h => h) (Or.inl ⟨by rfl, ?_⟩) ?_ ?_
            rotate_left
            · intro w'; go_simp; with_reducible rfl
            rotate_left
            · simp only [Act.put, List.setIfInBounds_toArray, List.set_cons_zero, List.set_cons_succ, i64_w, i32_w]; rfl
            refine done_ (done_of HT_.out (by kernel_rfl)) ?_
            have hnb250 := NB311_287.out; have hnc250 := NB287_311.out; have hnb251 := NB311_300.out; have hnc251 := NB300_311.out; have hnb252 := NB311_318.out; have hnc252 := NB318_311.out; have hnb253 := NB311_325.out; have hnc253 := NB325_311.out; have hnb254 := NB311_332.out; have hnc254 := NB332_311.out
            have hcz255_0 : w245.cell? ⟨gb311, 0, none⟩ = some (.string t306) := (blk_cell BK311.out 0).trans rfl
            have hcz255_1 : w245.cell? ⟨gb311, 1, none⟩ = some (.int .i64 t307) := (blk_cell BK311.out 1).trans rfl
            have hcz255_2 : w245.cell? ⟨gb311, 2, none⟩ = some (.int .i64 t308) := (blk_cell BK311.out 2).trans rfl
            have hcz255_3 : w245.cell? ⟨gb311, 3, none⟩ = some (.string t309) := (blk_cell BK311.out 3).trans rfl
            have hfz255_0 := blk_frozen BK311.out 0
            have hfz255_1 := blk_frozen BK311.out 1
            have hfz255_2 := blk_frozen BK311.out 2
            have hfz255_3 := blk_frozen BK311.out 3
            have hnb256 := NB318_287.out; have hnc256 := NB287_318.out; have hnb257 := NB318_300.out; have hnc257 := NB300_318.out; have hnb258 := NB318_325.out; have hnc258 := NB325_318.out; have hnb259 := NB318_332.out; have hnc259 := NB332_318.out
            have hcz260_0 : w245.cell? ⟨gb318, 0, none⟩ = some (.string t313) := (blk_cell BK318.out 0).trans rfl
            have hcz260_1 : w245.cell? ⟨gb318, 1, none⟩ = some (.int .i64 t314) := (blk_cell BK318.out 1).trans rfl
            have hcz260_2 : w245.cell? ⟨gb318, 2, none⟩ = some (.int .i64 t315) := (blk_cell BK318.out 2).trans rfl
            have hcz260_3 : w245.cell? ⟨gb318, 3, none⟩ = some (.string t316) := (blk_cell BK318.out 3).trans rfl
            have hfz260_0 := blk_frozen BK318.out 0
            have hfz260_1 := blk_frozen BK318.out 1
            have hfz260_2 := blk_frozen BK318.out 2
            have hfz260_3 := blk_frozen BK318.out 3
            have hnb261 := NB325_287.out; have hnc261 := NB287_325.out; have hnb262 := NB325_300.out; have hnc262 := NB300_325.out; have hnb263 := NB325_332.out; have hnc263 := NB332_325.out
            have hcz264_0 : w245.cell? ⟨gb325, 0, none⟩ = some (.string t320) := (blk_cell BK325.out 0).trans rfl
            have hcz264_1 : w245.cell? ⟨gb325, 1, none⟩ = some (.int .i64 t321) := (blk_cell BK325.out 1).trans rfl
            have hcz264_2 : w245.cell? ⟨gb325, 2, none⟩ = some (.int .i64 t322) := (blk_cell BK325.out 2).trans rfl
            have hcz264_3 : w245.cell? ⟨gb325, 3, none⟩ = some (.string t323) := (blk_cell BK325.out 3).trans rfl
            have hfz264_0 := blk_frozen BK325.out 0
            have hfz264_1 := blk_frozen BK325.out 1
            have hfz264_2 := blk_frozen BK325.out 2
            have hfz264_3 := blk_frozen BK325.out 3
            have hnb265 := NB332_287.out; have hnc265 := NB287_332.out; have hnb266 := NB332_300.out; have hnc266 := NB300_332.out
            have hcz267_0 : w245.cell? ⟨gb332, 0, none⟩ = some (.string (⟨#[]⟩ : ByteArray)) := (blk_cell BK332.out 0).trans rfl
            have hcz267_1 : w245.cell? ⟨gb332, 1, none⟩ = some (.int .i64 0) := (blk_cell BK332.out 1).trans rfl
            have hcz267_2 : w245.cell? ⟨gb332, 2, none⟩ = some (.int .i64 0) := (blk_cell BK332.out 2).trans rfl
            have hcz267_3 : w245.cell? ⟨gb332, 3, none⟩ = some (.string (⟨#[]⟩ : ByteArray)) := (blk_cell BK332.out 3).trans rfl
            have hfz267_0 := blk_frozen BK332.out 0
            have hfz267_1 := blk_frozen BK332.out 1
            have hfz267_2 := blk_frozen BK332.out 2
            have hfz267_3 := blk_frozen BK332.out 3
            by_cases c26 : (t310 != t317) = true
            · rw [if_pos c26] at H
              have c26b0 : (t310 != t317) = true := c26
              (try (have c26b1 : decide (t310 = t317) = false := by simpa using c26))
              (try (have c26b2 : (t310 == t317) = false := by simpa using c26))
              (try (have c26b3 : ¬ (t310 = t317) := by simpa using c26))
              clear c26
              obtain rfl := Option.some.inj H
              try go_wp2
              go_ret
              exact ⟨by first | rfl | (simp [errW_none, errW_some] <;> rfl) | (simp [*, errW_none, errW_some] <;> rfl) | (simp only [isEmpty_ne_, isEmpty_eq_]; rfl) | (simp [*, isEmpty_ne_, isEmpty_eq_]; done), by repeat (first | (with_reducible first | exact HB.out | apply below_alloc | apply pw_below_drewN | apply below_drew1 | refine below_set ?_ GE287.out | refine below_set ?_ GE300.out | refine below_set ?_ GE311.out | refine below_set ?_ GE318.out | refine below_set ?_ GE325.out | refine below_set ?_ GE332.out) | exact HB.out)⟩
            · rw [if_neg c26] at H
              have c26b0 : (t310 != t317) = false := by simpa using c26
              (try (have c26b1 : decide (t310 = t317) = true := by simpa using c26))
              (try (have c26b2 : (t310 == t317) = true := by simpa using c26))
              clear c26
              by_cases c63 : (!(t306.toList == t313.toList) || (!(t307 == t314) || (!(t308 == t315) || (!(t309.toList == t316.toList))))) = true
              · rw [if_pos c63] at H
                have c63b0 : (!(t306.toList == t313.toList) || (!(t307 == t314) || (!(t308 == t315) || (!(t309.toList == t316.toList))))) = true := c63
                clear c63
                obtain rfl := Option.some.inj H
                try go_wp2
                go_ret
                exact ⟨by first | rfl | (simp [errW_none, errW_some] <;> rfl) | (simp [*, errW_none, errW_some] <;> rfl) | (simp only [isEmpty_ne_, isEmpty_eq_]; rfl) | (simp [*, isEmpty_ne_, isEmpty_eq_]; done), by repeat (first | (with_reducible first | exact HB.out | apply below_alloc | apply pw_below_drewN | apply below_drew1 | refine below_set ?_ GE287.out | refine below_set ?_ GE300.out | refine below_set ?_ GE311.out | refine below_set ?_ GE318.out | refine below_set ?_ GE325.out | refine below_set ?_ GE332.out) | exact HB.out)⟩
              · rw [if_neg c63] at H
                have c63b0 : (!(t306.toList == t313.toList) || (!(t307 == t314) || (!(t308 == t315) || (!(t309.toList == t316.toList))))) = false := by simpa using c63
                clear c63
                by_cases c111 : (t324 != t331) = true
                · rw [if_pos c111] at H
                  have c111b0 : (t324 != t331) = true := c111
                  (try (have c111b1 : decide (t324 = t331) = false := by simpa using c111))
                  (try (have c111b2 : (t324 == t331) = false := by simpa using c111))
                  (try (have c111b3 : ¬ (t324 = t331) := by simpa using c111))
                  clear c111
                  obtain rfl := Option.some.inj H
                  try go_wp2
                  go_ret
                  exact ⟨by first | rfl | (simp [errW_none, errW_some] <;> rfl) | (simp [*, errW_none, errW_some] <;> rfl) | (simp only [isEmpty_ne_, isEmpty_eq_]; rfl) | (simp [*, isEmpty_ne_, isEmpty_eq_]; done), by repeat (first | (with_reducible first | exact HB.out | apply below_alloc | apply pw_below_drewN | apply below_drew1 | refine below_set ?_ GE287.out | refine below_set ?_ GE300.out | refine below_set ?_ GE311.out | refine below_set ?_ GE318.out | refine below_set ?_ GE325.out | refine below_set ?_ GE332.out) | exact HB.out)⟩
                · rw [if_neg c111] at H
                  have c111b0 : (t324 != t331) = false := by simpa using c111
                  (try (have c111b1 : decide (t324 = t331) = true := by simpa using c111))
                  (try (have c111b2 : (t324 == t331) = true := by simpa using c111))
                  clear c111
                  by_cases c159 : (!(t320.toList == t327.toList) || (!(t321 == t328) || (!(t322 == t329) || (!(t323.toList == t330.toList))))) = true
                  · rw [if_pos c159] at H
                    have c159b0 : (!(t320.toList == t327.toList) || (!(t321 == t328) || (!(t322 == t329) || (!(t323.toList == t330.toList))))) = true := c159
                    clear c159
                    obtain rfl := Option.some.inj H
                    try go_wp2
                    go_ret
                    exact ⟨by first | rfl | (simp [errW_none, errW_some] <;> rfl) | (simp [*, errW_none, errW_some] <;> rfl) | (simp only [isEmpty_ne_, isEmpty_eq_]; rfl) | (simp [*, isEmpty_ne_, isEmpty_eq_]; done), by repeat (first | (with_reducible first | exact HB.out | apply below_alloc | apply pw_below_drewN | apply below_drew1 | refine below_set ?_ GE287.out | refine below_set ?_ GE300.out | refine below_set ?_ GE311.out | refine below_set ?_ GE318.out | refine below_set ?_ GE325.out | refine below_set ?_ GE332.out) | exact HB.out)⟩
                  · rw [if_neg c159] at H
                    have c159b0 : (!(t320.toList == t327.toList) || (!(t321 == t328) || (!(t322 == t329) || (!(t323.toList == t330.toList))))) = false := by simpa using c159
                    clear c159
                    have H' := Aside0.mk H
                    clear H; try go_wp2
                    go_roundg k1
                    case measure => have := HK1.out; omega
                    case rel => exact ⟨(wrap64 (x10_1 + 1)), (by first | rfl | (simp; done) | (simp [*]; done) | (simp only [isEmpty_ne_]; done)), H', ⟨by have := HK1.out; omega⟩, ⟨by (with_reducible repeat (first | apply Kd.R_alloc | apply Kd.R_drewN | apply Kd.R_drew)); exact Kd.R_mono (Kd.R_far (p := ⟨gb332, 3, none⟩) (Kd.R_far (p := ⟨gb332, 2, none⟩) (Kd.R_far (p := ⟨gb332, 1, none⟩) (Kd.R_far (p := ⟨gb332, 0, none⟩) (Kd.R_types HO_9.out BK332.out (by decide)) (fun _ hk => hk.2) (.string t327)) (fun _ hk => hk.2) (.int .i64 t328)) (fun _ hk => hk.2) (.int .i64 t329)) (fun _ hk => hk.2) (.string t330)) (fun _ hk => trivial)⟩, ⟨by (with_reducible repeat (first | apply Kd.R_alloc | apply Kd.R_drewN | apply Kd.R_drew)); exact Kd.R_mono (Kd.R_far (p := ⟨gb332, 3, none⟩) (Kd.R_far (p := ⟨gb332, 2, none⟩) (Kd.R_far (p := ⟨gb332, 1, none⟩) (Kd.R_far (p := ⟨gb332, 0, none⟩) (Kd.R_mono HO_301003.out (fun k_ hk => (⟨hk, hk.2.2.2⟩ : _ ∧ k_ ≠ gb332))) (fun _ hk => hk.2) (.string t327)) (fun _ hk => hk.2) (.int .i64 t328)) (fun _ hk => hk.2) (.int .i64 t329)) (fun _ hk => hk.2) (.string t330)) (fun _ hk => trivial)⟩, ⟨by (with_reducible repeat (first | refine blk_drewN ?_ _ | refine blk_drew ?_ | refine blk_alloc ?_ _)); refine blk_far ?_ NB287_332.out _; (with_reducible repeat (first | refine blk_drewN ?_ _ | refine blk_drew ?_ | refine blk_alloc ?_ _)); refine blk_far ?_ NB287_332.out _; (with_reducible repeat (first | refine blk_drewN ?_ _ | refine blk_drew ?_ | refine blk_alloc ?_ _)); refine blk_far ?_ NB287_332.out _; (with_reducible repeat (first | refine blk_drewN ?_ _ | refine blk_drew ?_ | refine blk_alloc ?_ _)); refine blk_far ?_ NB287_332.out _; (with_reducible repeat (first | refine blk_drewN ?_ _ | refine blk_drew ?_ | refine blk_alloc ?_ _)); exact BK287.out⟩, ⟨by (with_reducible repeat (first | refine blk_drewN ?_ _ | refine blk_drew ?_ | refine blk_alloc ?_ _)); refine blk_far ?_ NB300_332.out _; (with_reducible repeat (first | refine blk_drewN ?_ _ | refine blk_drew ?_ | refine blk_alloc ?_ _)); refine blk_far ?_ NB300_332.out _; (with_reducible repeat (first | refine blk_drewN ?_ _ | refine blk_drew ?_ | refine blk_alloc ?_ _)); refine blk_far ?_ NB300_332.out _; (with_reducible repeat (first | refine blk_drewN ?_ _ | refine blk_drew ?_ | refine blk_alloc ?_ _)); refine blk_far ?_ NB300_332.out _; (with_reducible repeat (first | refine blk_drewN ?_ _ | refine blk_drew ?_ | refine blk_alloc ?_ _)); exact BK300.out⟩, ⟨by repeat (first | (with_reducible first | exact HB.out | apply below_alloc | apply pw_below_drewN | apply below_drew1 | refine below_set ?_ GE287.out | refine below_set ?_ GE300.out | refine below_set ?_ GE311.out | refine below_set ?_ GE318.out | refine below_set ?_ GE325.out | refine below_set ?_ GE332.out) | exact HB.out)⟩⟩
          · rw [if_neg c21] at H
            exact absurd H (by simp)
        · rw [if_neg c20] at H
          have c20b0 : decide (x10_1 < (y301.length : Int)) = false := decide_eq_false c20
          clear c20
          replace H := Option.bind_eq_some_iff.mp H
          obtain ⟨t304, A2680, H⟩ := H
          replace H : (some t304) = some r := H
          have A268 := Aside0.mk A2680; clear A2680
          obtain rfl := Option.some.inj H
          obtain ⟨Ao269, co269, eo269⟩ := Kd.R_slice HO_9.out
          subst eo269
          go_wp2_with (first | ((with_reducible refine gate_callee (f := 30) rfl ?_); refine goesL_ (some 89) rfl rfl Tryd.func30 (by kernel_rfl) rfl #[] rfl (by (try simp only [List.map_toArray, List.map_cons, List.map_nil]); first | done | rfl | (simp only [List.length_drop, List.length_take]; rfl)) ?_; (with_reducible refine (kauditlaw03_awake.calls k1  t304 _ ?side1 A268.out).mono ?_); (case side1 => refine GL.below HGL.out ?_; repeat (first | (with_reducible first | exact HB.out | apply below_alloc | apply pw_below_drewN | apply below_drew1 | refine below_set ?_ GE287.out | refine below_set ?_ GE300.out) | exact HB.out)); rintro e w270 ⟨rfl, hb⟩; refine ⟨_, rfl, ?_⟩; have n0_ := Aside0.mk (Kd.R_below (by (with_reducible repeat (first | apply Kd.R_alloc | apply Kd.R_drewN | apply Kd.R_drew)); exact HO_9.out) hb); have n1_ := Aside0.mk (Kd.R_below (by (with_reducible repeat (first | apply Kd.R_alloc | apply Kd.R_drewN | apply Kd.R_drew)); exact HO_301003.out) hb); have n2_ := Aside0.mk (blk_below (g := gb287) (o := .cells #[.int .i64 a0_0, .int .i64 a0_1, .int .i64 a0_2, .slice A0_3 l0_3.length c0_3] 50 (0, 0)) (by (with_reducible repeat (first | refine blk_drewN ?_ _ | refine blk_drew ?_ | refine blk_alloc ?_ _)); exact BK287.out) hb); have n3_ := Aside0.mk (blk_below (g := gb300) (o := .cells #[.int .i64 t293, .int .i64 t294, .int .i64 t295, .slice Ao17 t296.length co17] 50 (0, 0)) (by (with_reducible repeat (first | refine blk_drewN ?_ _ | refine blk_drew ?_ | refine blk_alloc ?_ _)); exact BK300.out) hb); have n4_ := Aside0.mk (below_step (by repeat (first | (with_reducible first | exact HB.out | apply below_alloc | apply pw_below_drewN | apply below_drew1 | refine below_set ?_ GE287.out | refine below_set ?_ GE300.out) | exact HB.out)) hb); clear HO_9; clear HO_301003; clear BK287; clear BK300; clear HB; have HO_9 := n0_; have HO_301003 := n1_; have BK287 := n2_; have BK300 := n3_; have HB := n4_; clear n0_ n1_ n2_ n3_ n4_; (try clear hb); (try clear hb2); (try clear hk); (try clear hi)))
          go_ret
          exact ⟨by first | rfl | (simp [errW_none, errW_some] <;> rfl) | (simp [*, errW_none, errW_some] <;> rfl) | (simp only [isEmpty_ne_, isEmpty_eq_]; rfl) | (simp [*, isEmpty_ne_, isEmpty_eq_]; done), by repeat (first | (with_reducible first | exact HB.out | apply below_alloc | apply pw_below_drewN | apply below_drew1 | refine below_set ?_ GE287.out | refine below_set ?_ GE300.out) | exact HB.out)⟩
  · replace c5 := Bool.eq_false_iff.mpr c5
    subst c5
    have H1 : ((kauditlaw03_awake.f k).bind fun t289 => (some t289)) = some r := by rw [if_neg (show ¬ (false = true) by decide)] at H; exact H
    clear H; have H := H1; clear H1
    replace H := Option.bind_eq_some_iff.mp H
    obtain ⟨t289, A2710, H⟩ := H
    replace H : (some t289) = some r := H
    have A271 := Aside0.mk A2710; clear A2710
    obtain rfl := Option.some.inj H
    go_enter Tryd.func8, Tryd.ntmps8
    go_wp2_with (first | ((with_reducible refine gate_dst (N := 3) rfl ?_); refine box_event ?hg (N := 3) ?hd (cs := #[.int .i64 a0_0, .int .i64 a0_1, .int .i64 a0_2, .slice A0_3 l0_3.length c0_3]) (t := 50) ?hr ?_; (case hd => rfl); (case hg => rfl); (case hr => first | (go_simp; done) | (go_simp; rfl)); intro gb287 hg w272 hbox hb; have n0_ := Aside0.mk (below_step (by repeat (first | (with_reducible first | exact HB.out | apply below_alloc | apply pw_below_drewN | apply below_drew1) | exact HB.out)) hb); have n1_ := Aside0.mk (hbox); have n2_ := Aside0.mk ((by rw [hg]; exact (below_size (by repeat (first | (with_reducible first | exact HB.out | apply below_alloc | apply pw_below_drewN | apply below_drew1) | exact HB.out))) : w.heap.size ≤ gb287)); have n3_ := Aside0.mk ((by rw [hg]; exact (below_size (by repeat (first | (with_reducible first | exact HB.out | apply below_alloc | apply pw_below_drewN | apply below_drew1) | exact HB.out))) : w.heap.size ≤ gb287)); clear HB; have HB := n0_; have BK287 := n1_; have GW287 := n2_; have GE287 := n3_; clear n0_ n1_ n2_ n3_; clear hb hbox hg; have hcz273_0 : w272.cell? ⟨gb287, 0, none⟩ = some (.int .i64 a0_0) := (blk_cell BK287.out 0).trans rfl; have hcz273_1 : w272.cell? ⟨gb287, 1, none⟩ = some (.int .i64 a0_1) := (blk_cell BK287.out 1).trans rfl; have hcz273_2 : w272.cell? ⟨gb287, 2, none⟩ = some (.int .i64 a0_2) := (blk_cell BK287.out 2).trans rfl; have hcz273_3 : w272.cell? ⟨gb287, 3, none⟩ = some (.slice A0_3 l0_3.length c0_3) := (blk_cell BK287.out 3).trans rfl; have hfz273_0 := blk_frozen BK287.out 0; have hfz273_1 := blk_frozen BK287.out 1; have hfz273_2 := blk_frozen BK287.out 2; have hfz273_3 := blk_frozen BK287.out 3) | ((with_reducible refine gate_callee (f := 29) rfl ?_); refine goesL_ (some 20) rfl rfl Tryd.func29 (by kernel_rfl) rfl #[.agg #[.int .i64 a0_0, .int .i64 a0_1, .int .i64 a0_2, .slice A0_3 l0_3.length c0_3]] rfl (by (try simp only [List.map_toArray, List.map_cons, List.map_nil]); first | done | rfl | (simp only [List.length_drop, List.length_take]; rfl)) ?_; (with_reducible refine (kauditlaw03_light.calls k a0_0 a0_1 a0_2 _ _ l0_3 false _ ?side1 ?side2 A4.out).mono ?_); (case side1 => repeat (first | exact (Kd.C_below HR0_3.out HB.out) | (with_reducible refine Kd.C_alloc ?_ _) | (with_reducible refine Kd.C_drewN ?_ _) | (with_reducible refine Kd.C_drew ?_))); (case side2 => exact HC0_3.out); rintro e w274 ⟨rfl, hb⟩; refine ⟨_, rfl, ?_⟩; have n0_ := Aside0.mk (blk_below (g := gb287) (o := .cells #[.int .i64 a0_0, .int .i64 a0_1, .int .i64 a0_2, .slice A0_3 l0_3.length c0_3] 50 (0, 0)) (by (with_reducible repeat (first | refine blk_drewN ?_ _ | refine blk_drew ?_ | refine blk_alloc ?_ _)); exact BK287.out) hb); have n1_ := Aside0.mk (below_step (by repeat (first | (with_reducible first | exact HB.out | apply below_alloc | apply pw_below_drewN | apply below_drew1 | refine below_set ?_ GE287.out) | exact HB.out)) hb); clear BK287; clear HB; have BK287 := n0_; have HB := n1_; clear n0_ n1_; (try clear hb); (try clear hb2); (try clear hk); (try clear hi)) | ((with_reducible refine gate_callee (f := 30) rfl ?_); refine goesL_ (some 22) rfl rfl Tryd.func30 (by kernel_rfl) rfl #[] rfl (by (try simp only [List.map_toArray, List.map_cons, List.map_nil]); first | done | rfl | (simp only [List.length_drop, List.length_take]; rfl)) ?_; (with_reducible refine (kauditlaw03_awake.calls k  t289 _ ?side1 A271.out).mono ?_); (case side1 => refine GL.below HGL.out ?_; repeat (first | (with_reducible first | exact HB.out | apply below_alloc | apply pw_below_drewN | apply below_drew1 | refine below_set ?_ GE287.out) | exact HB.out)); rintro e w275 ⟨rfl, hb⟩; refine ⟨_, rfl, ?_⟩; have n0_ := Aside0.mk (blk_below (g := gb287) (o := .cells #[.int .i64 a0_0, .int .i64 a0_1, .int .i64 a0_2, .slice A0_3 l0_3.length c0_3] 50 (0, 0)) (by (with_reducible repeat (first | refine blk_drewN ?_ _ | refine blk_drew ?_ | refine blk_alloc ?_ _)); exact BK287.out) hb); have n1_ := Aside0.mk (below_step (by repeat (first | (with_reducible first | exact HB.out | apply below_alloc | apply pw_below_drewN | apply below_drew1 | refine below_set ?_ GE287.out) | exact HB.out)) hb); clear BK287; clear HB; have BK287 := n0_; have HB := n1_; clear n0_ n1_; (try clear hb); (try clear hb2); (try clear hk); (try clear hi)))
    go_ret
    exact ⟨by first | rfl | (simp [errW_none, errW_some] <;> rfl) | (simp [*, errW_none, errW_some] <;> rfl) | (simp only [isEmpty_ne_, isEmpty_eq_]; rfl) | (simp [*, isEmpty_ne_, isEmpty_eq_]; done), by repeat (first | (with_reducible first | exact HB.out | apply below_alloc | apply pw_below_drewN | apply below_drew1 | refine below_set ?_ GE287.out) | exact HB.out)⟩
end Go.Proofs.YtjnlmmjadlidlaaDoor.PRec
end
