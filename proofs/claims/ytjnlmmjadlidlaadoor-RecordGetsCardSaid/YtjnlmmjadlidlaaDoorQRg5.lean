/-
  A part of the proof of this: RecordGets holds for every input: Get returns the first pair of a name (the card).
-/
import Derived.Test.YtjnlmmjadlidlaaDoorQRg4
section
namespace Go.Proofs.YtjnlmmjadlidlaaDoor.PRec
open Go.RowKit Go.Proofs.YtjnlmmjadlidlaaDoorW.PrintWords Go.Proofs.YtjnlmmjadlidlaaDoorW.PrintLast Go.Proofs.YtjnlmmjadlidlaaDoorW.PrintMore
attribute [local go_sem] max2_int min2_int max_two min_two max_three min_three max_four min_four
set_option linter.unusedVariables false
set_option linter.unusedSimpArgs false
attribute [local go_sem high] eqA34
def kauditmake_Src_Record.l0 : Nat → Int → List Int → Int → Int → Int → Int → List (S34) → Option (Int × Int × Int × (List (S34)) × Int)
  | 0, _, _, _, _, _, _, _ => none
  | k + 1, x4, x1000, x1001, x310000, x310001, x310002, x310003 => if x4 > 0 then ((kauditmake_Src_Pair.f k x1000 x1001).bind fun bt312 => (if x310003.length < 2932031007402 then (kauditmake_Src_Record.l0 k (wrap64 (x4 - 1)) x1000 bt312.2.2.2.2 x310000 x310001 x310002 (x310003 ++ [(⟨bt312.1, bt312.2.1, bt312.2.2.1, bt312.2.2.2.1⟩ : S34)])) else (none))) else ((kauditmake_Src_N.f x1000 x1001 20).bind fun bt320 => (if bt320.1 = 19 then ((kauditmake_Src_Range.f x1000 bt320.2 1299 1303).bind fun bt322 => ((kauditmake_Src_Range.f x1000 bt322.2 (-1) 1).bind fun bt324 => (some (bt322.1, bt324.1, x310002, x310003, bt324.2)))) else (some (x310000, x310001, x310002, x310003, bt320.2))))
def kauditmake_Src_Record.f (k : Nat) (s0_0 : List Int) (s0_1 : Int) : Option (Int × Int × Int × (List (S34)) × Int) := (kauditmake_Src_Pick.f s0_0 s0_1 (([1005, 1200, 1300, 1302, 1305, 1306, 1307, 1309, 1320, 1331] : List Int))).bind fun bt297 => ((kauditmake_Src_Pick.f s0_0 bt297.2 (([0, 5, 999, 1000, 12345, 1099511627776] : List Int))).bind fun bt302 => ((kauditmake_Src_Pick.f s0_0 bt302.2 (([0, 1, 7, 1073741824] : List Int))).bind fun bt307 => ((kauditmake_Src_N.f s0_0 bt307.2 4).bind fun bt310 => (kauditmake_Src_Record.l0 k bt310.1 s0_0 bt310.2 bt297.1 bt302.1 bt307.1 ([] : List (S34))))))
theorem kauditmake_Src_Record.mono_l : ∀ k, (∀ y0 y1 y2 y3 y4 y5 y6, LeO (kauditmake_Src_Record.l0 k y0 y1 y2 y3 y4 y5 y6) (kauditmake_Src_Record.l0 (k + 1) y0 y1 y2 y3 y4 y5 y6))
  | 0 => fun _ _ _ _ _ _ _ r h => by simp [kauditmake_Src_Record.l0] at h
  | k + 1 => by
    have ih0 := kauditmake_Src_Record.mono_l k
    · intro y0 y1 y2 y3 y4 y5 y6
      unfold kauditmake_Src_Record.l0
      repeat' first
      | (with_reducible exact ih0 _ _ _ _ _ _ _)
      | (with_reducible exact kauditmake_Src_Pair.mono _ _ _)
      | (with_reducible exact LeO.refl _)
      | (with_reducible exact LeO.none _)
      | (with_reducible refine LeO.ite ?_ ?_)
      | (with_reducible refine LeO.bind ?_ (fun _ => ?_))
      | exact ih0 _ _ _ _ _ _ _
      | exact kauditmake_Src_Pair.mono _ _ _
      | exact LeO.none _
      | refine LeO.ite ?_ ?_
      | refine LeO.bind ?_ (fun _ => ?_)
theorem kauditmake_Src_Record.mono : ∀ a0 a1 k, LeO (kauditmake_Src_Record.f k a0 a1) (kauditmake_Src_Record.f (k + 1) a0 a1) := by
  intro a0 a1 k
  have ih0 := kauditmake_Src_Record.mono_l k
  unfold kauditmake_Src_Record.f
  repeat' first
      | (with_reducible exact ih0 _ _ _ _ _ _ _)
      | (with_reducible exact kauditmake_Src_Pair.mono _ _ _)
      | (with_reducible exact LeO.refl _)
      | (with_reducible exact LeO.none _)
      | (with_reducible refine LeO.ite ?_ ?_)
      | (with_reducible refine LeO.bind ?_ (fun _ => ?_))
      | exact ih0 _ _ _ _ _ _ _
      | exact kauditmake_Src_Pair.mono _ _ _
      | exact LeO.none _
      | refine LeO.ite ?_ ?_
      | refine LeO.bind ?_ (fun _ => ?_)
def kauditmake_Src_Record.T5 : Bool × List (List Nat × List Nat) := (true, [([], []), ([0], [0]), ([], []), ([2], [2]), ([3], [3]), ([1, 4, 3], [1, 4]), ([0, 1, 2, 3, 4, 5], []), ([6, 5, 5, 0, 1, 2, 3, 4, 5], [5, 6])])
def kauditmake_Src_Record.B5 : List Nat := [0, 1, 0, 4, 12, 31, 63, 127]
theorem kauditmake_Src_Record.tab5 : rtab .any (opsOf Tryd.f33 5) = kauditmake_Src_Record.T5 := by kernel_rfl
theorem kauditmake_Src_Record.bits5 : waitsOk kauditmake_Src_Record.T5.2 kauditmake_Src_Record.B5 = true := by kernel_rfl
set_option maxHeartbeats 8000000 in
set_option maxRecDepth 100000 in
theorem kauditmake_Src_Record.calls (k : Nat) (g : Nat) (s0_0 : List Int) (s0_1 : Int) (r1 : Int) (r2 : Int) (r3 : Int) (r4 : List (S34)) (r5 : Int) (w0 w : World) (hI : IsS107 w0 w g s0_0 s0_1) (hB : Below w0.heap.size w0 w) (h : kauditmake_Src_Record.f k s0_0 s0_1 = some (r1, r2, r3, r4, r5)) :
    Calls Tryd.prog 33 #[.pointer (some ⟨g, 0, none⟩)] w fun e w' => ∃ v3_ : Value, e = .returned (.agg #[.int .i64 r1, .int .i64 r2, .int .i64 r3, v3_]) ∧ Kd.R k34 34 w' w.heap.size (fun _ => True) v3_ r4 ∧ IsS107 w0 w' g s0_0 r5 ∧ Below w0.heap.size w0 w' ∧ KeepBut w w' g none := by
  have hu50 := Tryd.underlying50
  have HI0 := Aside0.mk hI
  have HK := Aside0.mk (KeepBut.refl w g none)
  have HL := Aside0.mk hB.size
  clear hI
  have HW0 := Aside0.mk hB.size
  have HB := Aside0.mk hB
  clear hB
  have H : ((kauditmake_Src_Pick.f s0_0 s0_1 (([1005, 1200, 1300, 1302, 1305, 1306, 1307, 1309, 1320, 1331] : List Int))).bind fun bt297 => ((kauditmake_Src_Pick.f s0_0 bt297.2 (([0, 5, 999, 1000, 12345, 1099511627776] : List Int))).bind fun bt302 => ((kauditmake_Src_Pick.f s0_0 bt302.2 (([0, 1, 7, 1073741824] : List Int))).bind fun bt307 => ((kauditmake_Src_N.f s0_0 bt307.2 4).bind fun bt310 => (kauditmake_Src_Record.l0 k bt310.1 s0_0 bt310.2 bt297.1 bt302.1 bt307.1 ([] : List (S34))))))) = some (r1, r2, r3, r4, r5) := h
  clear h
  obtain ⟨y294, hy294⟩ : ∃ y_ : List Int, y_ = (([1005, 1200, 1300, 1302, 1305, 1306, 1307, 1309, 1320, 1331] : List Int)) := ⟨_, rfl⟩
  replace H : ((kauditmake_Src_Pick.f s0_0 s0_1 y294).bind fun bt297 => ((kauditmake_Src_Pick.f s0_0 bt297.2 (([0, 5, 999, 1000, 12345, 1099511627776] : List Int))).bind fun bt302 => ((kauditmake_Src_Pick.f s0_0 bt302.2 (([0, 1, 7, 1073741824] : List Int))).bind fun bt307 => ((kauditmake_Src_N.f s0_0 bt307.2 4).bind fun bt310 => (kauditmake_Src_Record.l0 k bt310.1 s0_0 bt310.2 bt297.1 bt302.1 bt307.1 ([] : List (S34))))))) = some (r1, r2, r3, r4, r5) := by first | (rw [hy294]; with_reducible exact H) | (have H2_ := (Option.bind_some _ _).symm.trans H; rw [hy294]; with_reducible exact H2_) | (have H2_ := (Option.bind_some _ _).symm.trans H; with_reducible exact H2_) | with_reducible exact H | (rw [hy294]; exact H) | exact H
  have Ny294 := Aside0.mk hy294
  clear hy294
  replace H := Option.bind_eq_some_iff.mp H
  obtain ⟨⟨t297, t298⟩, A20, H⟩ := H
  replace H : ((kauditmake_Src_Pick.f s0_0 t298 (([0, 5, 999, 1000, 12345, 1099511627776] : List Int))).bind fun bt302 => ((kauditmake_Src_Pick.f s0_0 bt302.2 (([0, 1, 7, 1073741824] : List Int))).bind fun bt307 => ((kauditmake_Src_N.f s0_0 bt307.2 4).bind fun bt310 => (kauditmake_Src_Record.l0 k bt310.1 s0_0 bt310.2 t297 bt302.1 bt307.1 ([] : List (S34)))))) = some (r1, r2, r3, r4, r5) := H
  have A2 := Aside0.mk A20
  clear A20
  obtain ⟨y299, hy299⟩ : ∃ y_ : List Int, y_ = (([0, 5, 999, 1000, 12345, 1099511627776] : List Int)) := ⟨_, rfl⟩
  replace H : ((kauditmake_Src_Pick.f s0_0 t298 y299).bind fun bt302 => ((kauditmake_Src_Pick.f s0_0 bt302.2 (([0, 1, 7, 1073741824] : List Int))).bind fun bt307 => ((kauditmake_Src_N.f s0_0 bt307.2 4).bind fun bt310 => (kauditmake_Src_Record.l0 k bt310.1 s0_0 bt310.2 t297 bt302.1 bt307.1 ([] : List (S34)))))) = some (r1, r2, r3, r4, r5) := by first | (rw [hy299]; with_reducible exact H) | (have H2_ := (Option.bind_some _ _).symm.trans H; rw [hy299]; with_reducible exact H2_) | (have H2_ := (Option.bind_some _ _).symm.trans H; with_reducible exact H2_) | with_reducible exact H | (rw [hy299]; exact H) | exact H
  have Ny299 := Aside0.mk hy299
  clear hy299
  replace H := Option.bind_eq_some_iff.mp H
  obtain ⟨⟨t302, t303⟩, A30, H⟩ := H
  replace H : ((kauditmake_Src_Pick.f s0_0 t303 (([0, 1, 7, 1073741824] : List Int))).bind fun bt307 => ((kauditmake_Src_N.f s0_0 bt307.2 4).bind fun bt310 => (kauditmake_Src_Record.l0 k bt310.1 s0_0 bt310.2 t297 t302 bt307.1 ([] : List (S34))))) = some (r1, r2, r3, r4, r5) := H
  have A3 := Aside0.mk A30
  clear A30
  obtain ⟨y304, hy304⟩ : ∃ y_ : List Int, y_ = (([0, 1, 7, 1073741824] : List Int)) := ⟨_, rfl⟩
  replace H : ((kauditmake_Src_Pick.f s0_0 t303 y304).bind fun bt307 => ((kauditmake_Src_N.f s0_0 bt307.2 4).bind fun bt310 => (kauditmake_Src_Record.l0 k bt310.1 s0_0 bt310.2 t297 t302 bt307.1 ([] : List (S34))))) = some (r1, r2, r3, r4, r5) := by first | (rw [hy304]; with_reducible exact H) | (have H2_ := (Option.bind_some _ _).symm.trans H; rw [hy304]; with_reducible exact H2_) | (have H2_ := (Option.bind_some _ _).symm.trans H; with_reducible exact H2_) | with_reducible exact H | (rw [hy304]; exact H) | exact H
  have Ny304 := Aside0.mk hy304
  clear hy304
  replace H := Option.bind_eq_some_iff.mp H
  obtain ⟨⟨t307, t308⟩, A40, H⟩ := H
  replace H : ((kauditmake_Src_N.f s0_0 t308 4).bind fun bt310 => (kauditmake_Src_Record.l0 k bt310.1 s0_0 bt310.2 t297 t302 t307 ([] : List (S34)))) = some (r1, r2, r3, r4, r5) := H
  have A4 := Aside0.mk A40
  clear A40
  replace H := Option.bind_eq_some_iff.mp H
  obtain ⟨⟨t310, t311⟩, A50, H⟩ := H
  replace H : (kauditmake_Src_Record.l0 k t310 s0_0 t311 t297 t302 t307 ([] : List (S34))) = some (r1, r2, r3, r4, r5) := H
  have A5 := Aside0.mk A50
  clear A50
  have H' := Aside0.mk H
  clear H
  go_enter Tryd.func33, Tryd.ntmps33
  go_wp2_with (first | ((with_reducible refine gate_dst (N := 2) rfl ?_); refine box_event ?hg (N := 2) ?hd (cs := #[.int .i64 0, .int .i64 0, .int .i64 0, .slice none 0 0]) (t := 50) ?hr ?_; (case hd => rfl); (case hg => rfl); (case hr => first | (go_simp; done) | (go_simp; rfl)); intro gb293 hg w6 hbox hb; have n0_ := Aside0.mk (IsS107.below (by repeat (first | (with_reducible first | exact HI0.out | apply IsS107.alloc | apply IsS107.drewN | apply IsS107.drew | apply IsS107.set_1) | exact HI0.out)) hb); have n1_ := Aside0.mk (KeepBut.trans (by repeat (first | (with_reducible first | exact HK.out | apply KeepBut.set_ | apply keep_drewN | apply keep_drew | apply keep_alloc) | exact HK.out)) (KeepBut.of_below hb g none) (.inl rfl)); have n2_ := Aside0.mk (below_step (by repeat (first | (with_reducible first | exact HB.out | apply below_alloc | apply pw_below_drewN | apply below_drew1 | refine below_set ?_ (IsS107.ge HI0.out)) | exact HB.out)) hb); have n3_ := Aside0.mk (hbox); have n4_ := Aside0.mk ((by rw [hg]; exact (keep_size (w := w) (g := g) (row := none) (by repeat (first | (with_reducible first | exact HK.out | apply KeepBut.set_ | apply keep_drewN | apply keep_drew | apply keep_alloc) | exact HK.out))) : w.heap.size ≤ gb293)); have n5_ := Aside0.mk ((Nat.le_trans HW0.out (by rw [hg]; exact (keep_size (w := w) (g := g) (row := none) (by repeat (first | (with_reducible first | exact HK.out | apply KeepBut.set_ | apply keep_drewN | apply keep_drew | apply keep_alloc) | exact HK.out))) : w.heap.size ≤ gb293) : w0.heap.size ≤ gb293)); have n6_ := Aside0.mk ((by rw [hg]; exact Nat.ne_of_lt (IsS107.lt (show IsS107 w0 _ g s0_0 s0_1 from by repeat (first | (with_reducible first | exact HI0.out | apply IsS107.alloc | apply IsS107.drewN | apply IsS107.drew | apply IsS107.set_1) | exact HI0.out))) : g ≠ gb293)); have n7_ := Aside0.mk ((by rw [hg]; exact Nat.ne_of_gt (IsS107.lt (show IsS107 w0 _ g s0_0 s0_1 from by repeat (first | (with_reducible first | exact HI0.out | apply IsS107.alloc | apply IsS107.drewN | apply IsS107.drew | apply IsS107.set_1) | exact HI0.out))) : gb293 ≠ g)); clear HI0; clear HK; clear HB; have HI0 := n0_; have HK := n1_; have HB := n2_; have BK293 := n3_; have GW293 := n4_; have GE293 := n5_; have NB0_293 := n6_; have NB293_0 := n7_; clear n0_ n1_ n2_ n3_ n4_ n5_ n6_ n7_; clear hb hbox hg) | ((with_reducible refine gate_dst (N := 6) rfl ?_); refine Kd.R_lit (Kd.int .i64) _ 3 ?hg (N := 6) ?hd (xs := ([1005, 1200, 1300, 1302, 1305, 1306, 1307, 1309, 1320, 1331] : List Int)) (inner := [.int .i64 1005, .int .i64 1200, .int .i64 1300, .int .i64 1302, .int .i64 1305, .int .i64 1306, .int .i64 1307, .int .i64 1309, .int .i64 1320, .int .i64 1331]) (ok := fun _ => True) (okp := fun _ => True) ?hr ?hp (fun _ hk => hk) trivial (Below.refl _ _) (Nat.le_refl _) (by simp) ?_; (case hd => rfl); (case hg => rfl); (case hr => first | (go_simp; done) | (go_simp; rfl)); (case hp => exact (Reps.one (show Kd.M (Kd.int .i64) _ _ _ 1005 [.int .i64 1005] from rfl) (Reps.one (show Kd.M (Kd.int .i64) _ _ _ 1200 [.int .i64 1200] from rfl) (Reps.one (show Kd.M (Kd.int .i64) _ _ _ 1300 [.int .i64 1300] from rfl) (Reps.one (show Kd.M (Kd.int .i64) _ _ _ 1302 [.int .i64 1302] from rfl) (Reps.one (show Kd.M (Kd.int .i64) _ _ _ 1305 [.int .i64 1305] from rfl) (Reps.one (show Kd.M (Kd.int .i64) _ _ _ 1306 [.int .i64 1306] from rfl) (Reps.one (show Kd.M (Kd.int .i64) _ _ _ 1307 [.int .i64 1307] from rfl) (Reps.one (show Kd.M (Kd.int .i64) _ _ _ 1309 [.int .i64 1309] from rfl) (Reps.one (show Kd.M (Kd.int .i64) _ _ _ 1320 [.int .i64 1320] from rfl) (Reps.one (show Kd.M (Kd.int .i64) _ _ _ 1331 [.int .i64 1331] from rfl) (Reps.none _ _)))))))))))); intro v295 w7 ho8 hb hg_ hnew_; clear hg_ hnew_; (first | rw [← Ny294.out] at ho8 | (simp only [Int.reduceToNat] at ho8; rw [← Ny294.out] at ho8)); have n0_ := Aside0.mk (Kd.R_lower ho8 (keep_size (w := w) (g := g) (row := none) (by repeat (first | (with_reducible first | exact HK.out | apply KeepBut.set_ | apply keep_drewN | apply keep_drew | apply keep_alloc | refine keep_far ?_ GW293.out _) | exact HK.out)))); have n1_ := Aside0.mk (IsS107.below (by repeat (first | (with_reducible first | exact HI0.out | apply IsS107.alloc | apply IsS107.drewN | apply IsS107.drew | apply IsS107.set_1 | refine IsS107.far ?_ NB0_293.out _) | exact HI0.out)) hb); have n2_ := Aside0.mk (blk_below (g := gb293) (o := .cells #[.int .i64 0, .int .i64 0, .int .i64 0, .slice none 0 0] 50 (0, 0)) (by (with_reducible repeat (first | refine blk_drewN ?_ _ | refine blk_drew ?_ | refine blk_alloc ?_ _)); exact BK293.out) hb); have n3_ := Aside0.mk (KeepBut.trans (by repeat (first | (with_reducible first | exact HK.out | apply KeepBut.set_ | apply keep_drewN | apply keep_drew | apply keep_alloc | refine keep_far ?_ GW293.out _) | exact HK.out)) (KeepBut.of_below hb g none) (.inl rfl)); have n4_ := Aside0.mk (below_step (by repeat (first | (with_reducible first | exact HB.out | apply below_alloc | apply pw_below_drewN | apply below_drew1 | refine below_set ?_ (IsS107.ge HI0.out) | refine below_set ?_ GE293.out) | exact HB.out)) hb); clear HI0; clear BK293; clear HK; clear HB; have HO296 := n0_; have HI0 := n1_; have BK293 := n2_; have HK := n3_; have HB := n4_; clear n0_ n1_ n2_ n3_ n4_; clear hb ho8; obtain ⟨Ao9, co9, eo9⟩ := Kd.R_slice HO296.out; subst eo9) | ((with_reducible refine gate_callee (f := 74) rfl ?_); refine goesL_ (some 7) rfl rfl Tryd.func74 (by kernel_rfl) rfl #[.pointer (some ⟨g, 0, none⟩), .slice Ao9 y294.length co9] rfl (by (try simp only [List.map_toArray, List.map_cons, List.map_nil]); first | done | rfl | (simp only [List.length_drop, List.length_take]; rfl)) ?_; (with_reducible refine (kauditmake_Src_Pick.calls g s0_0 s0_1 _ _ y294 t297 t298 w0 _ ?side1 ?side2 ?side3 ?side4 ?side5 A2.out).mono ?_); (case side1 => repeat (first | (with_reducible first | exact HI0.out | apply IsS107.alloc | apply IsS107.drewN | apply IsS107.drew | apply IsS107.set_1 | refine IsS107.far ?_ NB0_293.out _) | exact HI0.out)); (case side2 => repeat (first | (with_reducible first | exact HB.out | apply below_alloc | apply pw_below_drewN | apply below_drew1 | refine below_set ?_ (IsS107.ge HI0.out) | refine below_set ?_ GE293.out) | exact HB.out)); (case side3 => repeat (first | exact (Kd.R_reads' HO296.out).2.2 | (with_reducible refine Kd.C_alloc ?_ _) | (with_reducible refine Kd.C_drewN ?_ _) | (with_reducible refine Kd.C_drew ?_))); (case side4 => exact (Kd.R_reads' HO296.out).2.1); (case side5 => exact far_slice (IsS107.own_ne HI0.out HO296.out (by decide))); rintro e w10 ⟨rfl, hi, hb, hk⟩; refine ⟨_, rfl, ?_⟩; have n0_ := Aside0.mk (KeepBut.blk hk (g' := gb293) (o := .cells #[.int .i64 0, .int .i64 0, .int .i64 0, .slice none 0 0] 50 (0, 0)) (by (with_reducible repeat (first | refine blk_drewN ?_ _ | refine blk_drew ?_ | refine blk_alloc ?_ _)); exact BK293.out) NB293_0.out (by simp)); have n1_ := Aside0.mk (Kd.R_mono (Kd.R_keep (IsS107.apart (show IsS107 w0 _ g s0_0 s0_1 from by repeat (first | (with_reducible first | exact HI0.out | apply IsS107.alloc | apply IsS107.drewN | apply IsS107.drew | apply IsS107.set_1 | refine IsS107.far ?_ NB0_293.out _) | exact HI0.out)) (by (with_reducible repeat (first | apply Kd.R_alloc | apply Kd.R_drewN | apply Kd.R_drew)); exact HO296.out) (by decide)) hk (fun _ h => h.2)) (fun _ h => h.1)); have n2_ := Aside0.mk (KeepBut.trans (by repeat (first | (with_reducible first | exact HK.out | apply KeepBut.set_ | apply keep_drewN | apply keep_drew | apply keep_alloc | refine keep_far ?_ GW293.out _) | exact HK.out)) hk (.inl rfl)); have n3_ := Aside0.mk (hb); have n4_ := Aside0.mk (hi); clear BK293; clear HO296; clear HK; clear HB; clear HI0; have BK293 := n0_; have HO296 := n1_; have HK := n2_; have HB := n3_; have HI0 := n4_; clear n0_ n1_ n2_ n3_ n4_; (try clear hb); (try clear hb2); (try clear hk); (try clear hi)) | ((with_reducible refine gate_dst (N := 9) rfl ?_); refine Kd.R_lit (Kd.int .i64) _ 3 ?hg (N := 9) ?hd (xs := ([0, 5, 999, 1000, 12345, 1099511627776] : List Int)) (inner := [.int .i64 0, .int .i64 5, .int .i64 999, .int .i64 1000, .int .i64 12345, .int .i64 1099511627776]) (ok := fun _ => True) (okp := fun _ => True) ?hr ?hp (fun _ hk => hk) trivial (Below.refl _ _) (Nat.le_refl _) (by simp) ?_; (case hd => rfl); (case hg => rfl); (case hr => first | (go_simp; done) | (go_simp; rfl)); (case hp => exact (Reps.one (show Kd.M (Kd.int .i64) _ _ _ 0 [.int .i64 0] from rfl) (Reps.one (show Kd.M (Kd.int .i64) _ _ _ 5 [.int .i64 5] from rfl) (Reps.one (show Kd.M (Kd.int .i64) _ _ _ 999 [.int .i64 999] from rfl) (Reps.one (show Kd.M (Kd.int .i64) _ _ _ 1000 [.int .i64 1000] from rfl) (Reps.one (show Kd.M (Kd.int .i64) _ _ _ 12345 [.int .i64 12345] from rfl) (Reps.one (show Kd.M (Kd.int .i64) _ _ _ 1099511627776 [.int .i64 1099511627776] from rfl) (Reps.none _ _)))))))); intro v300 w11 ho12 hb hg_ hnew_; clear hg_ hnew_; (first | rw [← Ny299.out] at ho12 | (simp only [Int.reduceToNat] at ho12; rw [← Ny299.out] at ho12)); have n0_ := Aside0.mk (Kd.R_elder' (by (with_reducible repeat (first | apply Kd.R_alloc | apply Kd.R_drewN | apply Kd.R_drew)); exact HO296.out) (Kd.R_base ho12) hb); have n1_ := Aside0.mk (Kd.R_lower (Kd.R_new' ho12 (Kd.R_lt (by (with_reducible repeat (first | apply Kd.R_alloc | apply Kd.R_drewN | apply Kd.R_drew)); exact HO296.out))) (keep_size (w := w) (g := g) (row := none) (by repeat (first | (with_reducible first | exact HK.out | apply KeepBut.set_ | apply keep_drewN | apply keep_drew | apply keep_alloc | refine keep_far ?_ GW293.out _) | exact HK.out)))); have n2_ := Aside0.mk (IsS107.below (by repeat (first | (with_reducible first | exact HI0.out | apply IsS107.alloc | apply IsS107.drewN | apply IsS107.drew | apply IsS107.set_1 | refine IsS107.far ?_ NB0_293.out _) | exact HI0.out)) hb); have n3_ := Aside0.mk (blk_below (g := gb293) (o := .cells #[.int .i64 0, .int .i64 0, .int .i64 0, .slice none 0 0] 50 (0, 0)) (by (with_reducible repeat (first | refine blk_drewN ?_ _ | refine blk_drew ?_ | refine blk_alloc ?_ _)); exact BK293.out) hb); have n4_ := Aside0.mk (KeepBut.trans (by repeat (first | (with_reducible first | exact HK.out | apply KeepBut.set_ | apply keep_drewN | apply keep_drew | apply keep_alloc | refine keep_far ?_ GW293.out _) | exact HK.out)) (KeepBut.of_below hb g none) (.inl rfl)); have n5_ := Aside0.mk (below_step (by repeat (first | (with_reducible first | exact HB.out | apply below_alloc | apply pw_below_drewN | apply below_drew1 | refine below_set ?_ (IsS107.ge HI0.out) | refine below_set ?_ GE293.out) | exact HB.out)) hb); clear HO296; clear HI0; clear BK293; clear HK; clear HB; have HO296 := n0_; have HO301 := n1_; have HI0 := n2_; have BK293 := n3_; have HK := n4_; have HB := n5_; clear n0_ n1_ n2_ n3_ n4_ n5_; clear hb ho12; obtain ⟨Ao13, co13, eo13⟩ := Kd.R_slice HO301.out; subst eo13) | ((with_reducible refine gate_callee (f := 74) rfl ?_); refine goesL_ (some 10) rfl rfl Tryd.func74 (by kernel_rfl) rfl #[.pointer (some ⟨g, 0, none⟩), .slice Ao13 y299.length co13] rfl (by (try simp only [List.map_toArray, List.map_cons, List.map_nil]); first | done | rfl | (simp only [List.length_drop, List.length_take]; rfl)) ?_; (with_reducible refine (kauditmake_Src_Pick.calls g s0_0 t298 _ _ y299 t302 t303 w0 _ ?side1 ?side2 ?side3 ?side4 ?side5 A3.out).mono ?_); (case side1 => repeat (first | (with_reducible first | exact HI0.out | apply IsS107.alloc | apply IsS107.drewN | apply IsS107.drew | apply IsS107.set_1 | refine IsS107.far ?_ NB0_293.out _) | exact HI0.out)); (case side2 => repeat (first | (with_reducible first | exact HB.out | apply below_alloc | apply pw_below_drewN | apply below_drew1 | refine below_set ?_ (IsS107.ge HI0.out) | refine below_set ?_ GE293.out) | exact HB.out)); (case side3 => repeat (first | exact (Kd.R_reads' HO301.out).2.2 | (with_reducible refine Kd.C_alloc ?_ _) | (with_reducible refine Kd.C_drewN ?_ _) | (with_reducible refine Kd.C_drew ?_))); (case side4 => exact (Kd.R_reads' HO301.out).2.1); (case side5 => exact far_slice (IsS107.own_ne HI0.out HO301.out (by decide))); rintro e w14 ⟨rfl, hi, hb, hk⟩; refine ⟨_, rfl, ?_⟩; have n0_ := Aside0.mk (KeepBut.blk hk (g' := gb293) (o := .cells #[.int .i64 0, .int .i64 0, .int .i64 0, .slice none 0 0] 50 (0, 0)) (by (with_reducible repeat (first | refine blk_drewN ?_ _ | refine blk_drew ?_ | refine blk_alloc ?_ _)); exact BK293.out) NB293_0.out (by simp)); have n1_ := Aside0.mk (Kd.R_mono (Kd.R_keep (IsS107.apart (show IsS107 w0 _ g s0_0 t298 from by repeat (first | (with_reducible first | exact HI0.out | apply IsS107.alloc | apply IsS107.drewN | apply IsS107.drew | apply IsS107.set_1 | refine IsS107.far ?_ NB0_293.out _) | exact HI0.out)) (by (with_reducible repeat (first | apply Kd.R_alloc | apply Kd.R_drewN | apply Kd.R_drew)); exact HO296.out) (by decide)) hk (fun _ h => h.2)) (fun _ h => h.1)); have n2_ := Aside0.mk (Kd.R_mono (Kd.R_keep (IsS107.apart (show IsS107 w0 _ g s0_0 t298 from by repeat (first | (with_reducible first | exact HI0.out | apply IsS107.alloc | apply IsS107.drewN | apply IsS107.drew | apply IsS107.set_1 | refine IsS107.far ?_ NB0_293.out _) | exact HI0.out)) (by (with_reducible repeat (first | apply Kd.R_alloc | apply Kd.R_drewN | apply Kd.R_drew)); exact HO301.out) (by decide)) hk (fun _ h => h.2)) (fun _ h => h.1)); have n3_ := Aside0.mk (KeepBut.trans (by repeat (first | (with_reducible first | exact HK.out | apply KeepBut.set_ | apply keep_drewN | apply keep_drew | apply keep_alloc | refine keep_far ?_ GW293.out _) | exact HK.out)) hk (.inl rfl)); have n4_ := Aside0.mk (hb); have n5_ := Aside0.mk (hi); clear BK293; clear HO296; clear HO301; clear HK; clear HB; clear HI0; have BK293 := n0_; have HO296 := n1_; have HO301 := n2_; have HK := n3_; have HB := n4_; have HI0 := n5_; clear n0_ n1_ n2_ n3_ n4_ n5_; (try clear hb); (try clear hb2); (try clear hk); (try clear hi)) | ((with_reducible refine gate_dst (N := 12) rfl ?_); refine Kd.R_lit (Kd.int .i64) _ 3 ?hg (N := 12) ?hd (xs := ([0, 1, 7, 1073741824] : List Int)) (inner := [.int .i64 0, .int .i64 1, .int .i64 7, .int .i64 1073741824]) (ok := fun _ => True) (okp := fun _ => True) ?hr ?hp (fun _ hk => hk) trivial (Below.refl _ _) (Nat.le_refl _) (by simp) ?_; (case hd => rfl); (case hg => rfl); (case hr => first | (go_simp; done) | (go_simp; rfl)); (case hp => exact (Reps.one (show Kd.M (Kd.int .i64) _ _ _ 0 [.int .i64 0] from rfl) (Reps.one (show Kd.M (Kd.int .i64) _ _ _ 1 [.int .i64 1] from rfl) (Reps.one (show Kd.M (Kd.int .i64) _ _ _ 7 [.int .i64 7] from rfl) (Reps.one (show Kd.M (Kd.int .i64) _ _ _ 1073741824 [.int .i64 1073741824] from rfl) (Reps.none _ _)))))); intro v305 w15 ho16 hb hg_ hnew_; clear hg_ hnew_; (first | rw [← Ny304.out] at ho16 | (simp only [Int.reduceToNat] at ho16; rw [← Ny304.out] at ho16)); have n0_ := Aside0.mk (Kd.R_elder' (by (with_reducible repeat (first | apply Kd.R_alloc | apply Kd.R_drewN | apply Kd.R_drew)); exact HO296.out) (Kd.R_base ho16) hb); have n1_ := Aside0.mk (Kd.R_elder' (by (with_reducible repeat (first | apply Kd.R_alloc | apply Kd.R_drewN | apply Kd.R_drew)); exact HO301.out) (Kd.R_base ho16) hb); have n2_ := Aside0.mk (Kd.R_lower (Kd.R_new' (Kd.R_new' ho16 (Kd.R_lt (by (with_reducible repeat (first | apply Kd.R_alloc | apply Kd.R_drewN | apply Kd.R_drew)); exact HO296.out))) (Kd.R_lt (by (with_reducible repeat (first | apply Kd.R_alloc | apply Kd.R_drewN | apply Kd.R_drew)); exact HO301.out))) (keep_size (w := w) (g := g) (row := none) (by repeat (first | (with_reducible first | exact HK.out | apply KeepBut.set_ | apply keep_drewN | apply keep_drew | apply keep_alloc | refine keep_far ?_ GW293.out _) | exact HK.out)))); have n3_ := Aside0.mk (IsS107.below (by repeat (first | (with_reducible first | exact HI0.out | apply IsS107.alloc | apply IsS107.drewN | apply IsS107.drew | apply IsS107.set_1 | refine IsS107.far ?_ NB0_293.out _) | exact HI0.out)) hb); have n4_ := Aside0.mk (blk_below (g := gb293) (o := .cells #[.int .i64 0, .int .i64 0, .int .i64 0, .slice none 0 0] 50 (0, 0)) (by (with_reducible repeat (first | refine blk_drewN ?_ _ | refine blk_drew ?_ | refine blk_alloc ?_ _)); exact BK293.out) hb); have n5_ := Aside0.mk (KeepBut.trans (by repeat (first | (with_reducible first | exact HK.out | apply KeepBut.set_ | apply keep_drewN | apply keep_drew | apply keep_alloc | refine keep_far ?_ GW293.out _) | exact HK.out)) (KeepBut.of_below hb g none) (.inl rfl)); have n6_ := Aside0.mk (below_step (by repeat (first | (with_reducible first | exact HB.out | apply below_alloc | apply pw_below_drewN | apply below_drew1 | refine below_set ?_ (IsS107.ge HI0.out) | refine below_set ?_ GE293.out) | exact HB.out)) hb); clear HO296; clear HO301; clear HI0; clear BK293; clear HK; clear HB; have HO296 := n0_; have HO301 := n1_; have HO306 := n2_; have HI0 := n3_; have BK293 := n4_; have HK := n5_; have HB := n6_; clear n0_ n1_ n2_ n3_ n4_ n5_ n6_; clear hb ho16; obtain ⟨Ao17, co17, eo17⟩ := Kd.R_slice HO306.out; subst eo17) | ((with_reducible refine gate_callee (f := 74) rfl ?_); refine goesL_ (some 13) rfl rfl Tryd.func74 (by kernel_rfl) rfl #[.pointer (some ⟨g, 0, none⟩), .slice Ao17 y304.length co17] rfl (by (try simp only [List.map_toArray, List.map_cons, List.map_nil]); first | done | rfl | (simp only [List.length_drop, List.length_take]; rfl)) ?_; (with_reducible refine (kauditmake_Src_Pick.calls g s0_0 t303 _ _ y304 t307 t308 w0 _ ?side1 ?side2 ?side3 ?side4 ?side5 A4.out).mono ?_); (case side1 => repeat (first | (with_reducible first | exact HI0.out | apply IsS107.alloc | apply IsS107.drewN | apply IsS107.drew | apply IsS107.set_1 | refine IsS107.far ?_ NB0_293.out _) | exact HI0.out)); (case side2 => repeat (first | (with_reducible first | exact HB.out | apply below_alloc | apply pw_below_drewN | apply below_drew1 | refine below_set ?_ (IsS107.ge HI0.out) | refine below_set ?_ GE293.out) | exact HB.out)); (case side3 => repeat (first | exact (Kd.R_reads' HO306.out).2.2 | (with_reducible refine Kd.C_alloc ?_ _) | (with_reducible refine Kd.C_drewN ?_ _) | (with_reducible refine Kd.C_drew ?_))); (case side4 => exact (Kd.R_reads' HO306.out).2.1); (case side5 => exact far_slice (IsS107.own_ne HI0.out HO306.out (by decide))); rintro e w18 ⟨rfl, hi, hb, hk⟩; refine ⟨_, rfl, ?_⟩; have n0_ := Aside0.mk (KeepBut.blk hk (g' := gb293) (o := .cells #[.int .i64 0, .int .i64 0, .int .i64 0, .slice none 0 0] 50 (0, 0)) (by (with_reducible repeat (first | refine blk_drewN ?_ _ | refine blk_drew ?_ | refine blk_alloc ?_ _)); exact BK293.out) NB293_0.out (by simp)); have n1_ := Aside0.mk (Kd.R_mono (Kd.R_keep (IsS107.apart (show IsS107 w0 _ g s0_0 t303 from by repeat (first | (with_reducible first | exact HI0.out | apply IsS107.alloc | apply IsS107.drewN | apply IsS107.drew | apply IsS107.set_1 | refine IsS107.far ?_ NB0_293.out _) | exact HI0.out)) (by (with_reducible repeat (first | apply Kd.R_alloc | apply Kd.R_drewN | apply Kd.R_drew)); exact HO296.out) (by decide)) hk (fun _ h => h.2)) (fun _ h => h.1)); have n2_ := Aside0.mk (Kd.R_mono (Kd.R_keep (IsS107.apart (show IsS107 w0 _ g s0_0 t303 from by repeat (first | (with_reducible first | exact HI0.out | apply IsS107.alloc | apply IsS107.drewN | apply IsS107.drew | apply IsS107.set_1 | refine IsS107.far ?_ NB0_293.out _) | exact HI0.out)) (by (with_reducible repeat (first | apply Kd.R_alloc | apply Kd.R_drewN | apply Kd.R_drew)); exact HO301.out) (by decide)) hk (fun _ h => h.2)) (fun _ h => h.1)); have n3_ := Aside0.mk (Kd.R_mono (Kd.R_keep (IsS107.apart (show IsS107 w0 _ g s0_0 t303 from by repeat (first | (with_reducible first | exact HI0.out | apply IsS107.alloc | apply IsS107.drewN | apply IsS107.drew | apply IsS107.set_1 | refine IsS107.far ?_ NB0_293.out _) | exact HI0.out)) (by (with_reducible repeat (first | apply Kd.R_alloc | apply Kd.R_drewN | apply Kd.R_drew)); exact HO306.out) (by decide)) hk (fun _ h => h.2)) (fun _ h => h.1)); have n4_ := Aside0.mk (KeepBut.trans (by repeat (first | (with_reducible first | exact HK.out | apply KeepBut.set_ | apply keep_drewN | apply keep_drew | apply keep_alloc | refine keep_far ?_ GW293.out _) | exact HK.out)) hk (.inl rfl)); have n5_ := Aside0.mk (hb); have n6_ := Aside0.mk (hi); clear BK293; clear HO296; clear HO301; clear HO306; clear HK; clear HB; clear HI0; have BK293 := n0_; have HO296 := n1_; have HO301 := n2_; have HO306 := n3_; have HK := n4_; have HB := n5_; have HI0 := n6_; clear n0_ n1_ n2_ n3_ n4_ n5_ n6_; (try clear hb); (try clear hb2); (try clear hk); (try clear hi)) | ((with_reducible refine gate_dst (N := 3) rfl ?_); refine box_event ?hg (N := 3) ?hd (cs := #[.int .i64 0, .int .i64 0, .int .i64 0, .slice none 0 0]) (t := 50) ?hr ?_; (case hd => rfl); (case hg => rfl); (case hr => first | (go_simp; done) | (go_simp; rfl)); intro gb309 hg w19 hbox hb; have n0_ := Aside0.mk (Kd.R_below (by (with_reducible repeat (first | apply Kd.R_alloc | apply Kd.R_drewN | apply Kd.R_drew)); exact HO296.out) hb); have n1_ := Aside0.mk (Kd.R_below (by (with_reducible repeat (first | apply Kd.R_alloc | apply Kd.R_drewN | apply Kd.R_drew)); exact HO301.out) hb); have n2_ := Aside0.mk (Kd.R_below (by (with_reducible repeat (first | apply Kd.R_alloc | apply Kd.R_drewN | apply Kd.R_drew)); exact HO306.out) hb); have n3_ := Aside0.mk (IsS107.below (by repeat (first | (with_reducible first | exact HI0.out | apply IsS107.alloc | apply IsS107.drewN | apply IsS107.drew | apply IsS107.set_1 | refine IsS107.far ?_ NB0_293.out _) | exact HI0.out)) hb); have n4_ := Aside0.mk (blk_below (g := gb293) (o := .cells #[.int .i64 0, .int .i64 0, .int .i64 0, .slice none 0 0] 50 (0, 0)) (by (with_reducible repeat (first | refine blk_drewN ?_ _ | refine blk_drew ?_ | refine blk_alloc ?_ _)); exact BK293.out) hb); have n5_ := Aside0.mk (KeepBut.trans (by repeat (first | (with_reducible first | exact HK.out | apply KeepBut.set_ | apply keep_drewN | apply keep_drew | apply keep_alloc | refine keep_far ?_ GW293.out _) | exact HK.out)) (KeepBut.of_below hb g none) (.inl rfl)); have n6_ := Aside0.mk (below_step (by repeat (first | (with_reducible first | exact HB.out | apply below_alloc | apply pw_below_drewN | apply below_drew1 | refine below_set ?_ (IsS107.ge HI0.out) | refine below_set ?_ GE293.out) | exact HB.out)) hb); have n7_ := Aside0.mk (hbox); have n8_ := Aside0.mk ((by rw [hg]; exact (keep_size (w := w) (g := g) (row := none) (by repeat (first | (with_reducible first | exact HK.out | apply KeepBut.set_ | apply keep_drewN | apply keep_drew | apply keep_alloc | refine keep_far ?_ GW293.out _) | exact HK.out))) : w.heap.size ≤ gb309)); have n9_ := Aside0.mk ((Nat.le_trans HW0.out (by rw [hg]; exact (keep_size (w := w) (g := g) (row := none) (by repeat (first | (with_reducible first | exact HK.out | apply KeepBut.set_ | apply keep_drewN | apply keep_drew | apply keep_alloc | refine keep_far ?_ GW293.out _) | exact HK.out))) : w.heap.size ≤ gb309) : w0.heap.size ≤ gb309)); have n10_ := Aside0.mk ((by rw [hg]; exact Nat.ne_of_lt (blk_lt (g := gb293) (o := .cells #[.int .i64 0, .int .i64 0, .int .i64 0, .slice none 0 0] 50 (0, 0)) (by (with_reducible repeat (first | refine blk_drewN ?_ _ | refine blk_drew ?_ | refine blk_alloc ?_ _)); exact BK293.out)) : gb293 ≠ gb309)); have n11_ := Aside0.mk ((by rw [hg]; exact Nat.ne_of_gt (blk_lt (g := gb293) (o := .cells #[.int .i64 0, .int .i64 0, .int .i64 0, .slice none 0 0] 50 (0, 0)) (by (with_reducible repeat (first | refine blk_drewN ?_ _ | refine blk_drew ?_ | refine blk_alloc ?_ _)); exact BK293.out)) : gb309 ≠ gb293)); have n12_ := Aside0.mk ((by rw [hg]; exact Nat.ne_of_lt (IsS107.lt (show IsS107 w0 _ g s0_0 t308 from by repeat (first | (with_reducible first | exact HI0.out | apply IsS107.alloc | apply IsS107.drewN | apply IsS107.drew | apply IsS107.set_1 | refine IsS107.far ?_ NB0_293.out _) | exact HI0.out))) : g ≠ gb309)); have n13_ := Aside0.mk ((by rw [hg]; exact Nat.ne_of_gt (IsS107.lt (show IsS107 w0 _ g s0_0 t308 from by repeat (first | (with_reducible first | exact HI0.out | apply IsS107.alloc | apply IsS107.drewN | apply IsS107.drew | apply IsS107.set_1 | refine IsS107.far ?_ NB0_293.out _) | exact HI0.out))) : gb309 ≠ g)); clear HO296; clear HO301; clear HO306; clear HI0; clear BK293; clear HK; clear HB; have HO296 := n0_; have HO301 := n1_; have HO306 := n2_; have HI0 := n3_; have BK293 := n4_; have HK := n5_; have HB := n6_; have BK309 := n7_; have GW309 := n8_; have GE309 := n9_; have NB293_309 := n10_; have NB309_293 := n11_; have NB0_309 := n12_; have NB309_0 := n13_; clear n0_ n1_ n2_ n3_ n4_ n5_ n6_ n7_ n8_ n9_ n10_ n11_ n12_ n13_; clear hb hbox hg; have hnb20 := NB309_293.out; have hnc20 := NB293_309.out; have hnb21 := NB309_0.out; have hnc21 := NB0_309.out; have hcz22_0 : w19.cell? ⟨gb309, 0, none⟩ = some (.int .i64 0) := (blk_cell BK309.out 0).trans rfl; have hcz22_1 : w19.cell? ⟨gb309, 1, none⟩ = some (.int .i64 0) := (blk_cell BK309.out 1).trans rfl; have hcz22_2 : w19.cell? ⟨gb309, 2, none⟩ = some (.int .i64 0) := (blk_cell BK309.out 2).trans rfl; have hcz22_3 : w19.cell? ⟨gb309, 3, none⟩ = some (.slice none 0 0) := (blk_cell BK309.out 3).trans rfl; have hfz22_0 := blk_frozen BK309.out 0; have hfz22_1 := blk_frozen BK309.out 1; have hfz22_2 := blk_frozen BK309.out 2; have hfz22_3 := blk_frozen BK309.out 3) | ((with_reducible refine gate_callee (f := 34) rfl ?_); refine goesL_ (some 16) rfl rfl Tryd.func34 (by kernel_rfl) rfl #[.pointer (some ⟨g, 0, none⟩), .int .i64 4] rfl (by (try simp only [List.map_toArray, List.map_cons, List.map_nil]); first | done | rfl | (simp only [List.length_drop, List.length_take]; rfl)) ?_; (with_reducible refine (kauditmake_Src_N.calls g s0_0 t308 4 t310 t311 w0 _ ?side1 ?side2 A5.out).mono ?_); (case side1 => repeat (first | (with_reducible first | exact HI0.out | apply IsS107.alloc | apply IsS107.drewN | apply IsS107.drew | apply IsS107.set_1 | refine IsS107.far ?_ NB0_293.out _ | refine IsS107.far ?_ NB0_309.out _) | exact HI0.out)); (case side2 => repeat (first | (with_reducible first | exact HB.out | apply below_alloc | apply pw_below_drewN | apply below_drew1 | refine below_set ?_ (IsS107.ge HI0.out) | refine below_set ?_ GE293.out | refine below_set ?_ GE309.out) | exact HB.out)); rintro e w23 ⟨rfl, hi, hb, hk⟩; refine ⟨_, rfl, ?_⟩; have n0_ := Aside0.mk (KeepBut.blk hk (g' := gb293) (o := .cells #[.int .i64 0, .int .i64 0, .int .i64 0, .slice none 0 0] 50 (0, 0)) (by (with_reducible repeat (first | refine blk_drewN ?_ _ | refine blk_drew ?_ | refine blk_alloc ?_ _)); refine blk_far ?_ NB293_309.out _; (with_reducible repeat (first | refine blk_drewN ?_ _ | refine blk_drew ?_ | refine blk_alloc ?_ _)); refine blk_far ?_ NB293_309.out _; (with_reducible repeat (first | refine blk_drewN ?_ _ | refine blk_drew ?_ | refine blk_alloc ?_ _)); refine blk_far ?_ NB293_309.out _; (with_reducible repeat (first | refine blk_drewN ?_ _ | refine blk_drew ?_ | refine blk_alloc ?_ _)); refine blk_far ?_ NB293_309.out _; (with_reducible repeat (first | refine blk_drewN ?_ _ | refine blk_drew ?_ | refine blk_alloc ?_ _)); exact BK293.out) NB293_0.out (by simp)); have n1_ := Aside0.mk (Kd.R_mono (Kd.R_keep (IsS107.apart (show IsS107 w0 _ g s0_0 t308 from by repeat (first | (with_reducible first | exact HI0.out | apply IsS107.alloc | apply IsS107.drewN | apply IsS107.drew | apply IsS107.set_1 | refine IsS107.far ?_ NB0_293.out _ | refine IsS107.far ?_ NB0_309.out _) | exact HI0.out)) (by (with_reducible repeat (first | apply Kd.R_alloc | apply Kd.R_drewN | apply Kd.R_drew)); exact (Kd.R_mono (Kd.R_far (p := ⟨gb309, 3, none⟩) (Kd.R_far (p := ⟨gb309, 2, none⟩) (Kd.R_far (p := ⟨gb309, 1, none⟩) (Kd.R_far (p := ⟨gb309, 0, none⟩) (Kd.R_types HO296.out BK309.out (by decide)) (fun _ hk => hk.2) (.int .i64 t297)) (fun _ hk => hk.2) (.int .i64 t302)) (fun _ hk => hk.2) (.int .i64 t307)) (fun _ hk => hk.2) (.slice none 0 0)) (fun _ h_ => h_.1))) (by decide)) hk (fun _ h => h.2)) (fun _ h => h.1)); have n2_ := Aside0.mk (Kd.R_mono (Kd.R_keep (IsS107.apart (show IsS107 w0 _ g s0_0 t308 from by repeat (first | (with_reducible first | exact HI0.out | apply IsS107.alloc | apply IsS107.drewN | apply IsS107.drew | apply IsS107.set_1 | refine IsS107.far ?_ NB0_293.out _ | refine IsS107.far ?_ NB0_309.out _) | exact HI0.out)) (by (with_reducible repeat (first | apply Kd.R_alloc | apply Kd.R_drewN | apply Kd.R_drew)); exact (Kd.R_mono (Kd.R_far (p := ⟨gb309, 3, none⟩) (Kd.R_far (p := ⟨gb309, 2, none⟩) (Kd.R_far (p := ⟨gb309, 1, none⟩) (Kd.R_far (p := ⟨gb309, 0, none⟩) (Kd.R_types HO301.out BK309.out (by decide)) (fun _ hk => hk.2) (.int .i64 t297)) (fun _ hk => hk.2) (.int .i64 t302)) (fun _ hk => hk.2) (.int .i64 t307)) (fun _ hk => hk.2) (.slice none 0 0)) (fun _ h_ => h_.1))) (by decide)) hk (fun _ h => h.2)) (fun _ h => h.1)); have n3_ := Aside0.mk (Kd.R_mono (Kd.R_keep (IsS107.apart (show IsS107 w0 _ g s0_0 t308 from by repeat (first | (with_reducible first | exact HI0.out | apply IsS107.alloc | apply IsS107.drewN | apply IsS107.drew | apply IsS107.set_1 | refine IsS107.far ?_ NB0_293.out _ | refine IsS107.far ?_ NB0_309.out _) | exact HI0.out)) (by (with_reducible repeat (first | apply Kd.R_alloc | apply Kd.R_drewN | apply Kd.R_drew)); exact (Kd.R_mono (Kd.R_far (p := ⟨gb309, 3, none⟩) (Kd.R_far (p := ⟨gb309, 2, none⟩) (Kd.R_far (p := ⟨gb309, 1, none⟩) (Kd.R_far (p := ⟨gb309, 0, none⟩) (Kd.R_types HO306.out BK309.out (by decide)) (fun _ hk => hk.2) (.int .i64 t297)) (fun _ hk => hk.2) (.int .i64 t302)) (fun _ hk => hk.2) (.int .i64 t307)) (fun _ hk => hk.2) (.slice none 0 0)) (fun _ h_ => h_.1))) (by decide)) hk (fun _ h => h.2)) (fun _ h => h.1)); have n4_ := Aside0.mk (KeepBut.blk hk (g' := gb309) (o := .cells #[.int .i64 t297, .int .i64 t302, .int .i64 t307, .slice none 0 0] 50 (0, 0)) (by (with_reducible repeat (first | refine blk_drewN ?_ _ | refine blk_drew ?_ | refine blk_alloc ?_ _)); refine blk_put (cs := #[.int .i64 t297, .int .i64 t302, .int .i64 t307, .slice none 0 0]) ?_ 3 _ rfl; (with_reducible repeat (first | refine blk_drewN ?_ _ | refine blk_drew ?_ | refine blk_alloc ?_ _)); refine blk_put (cs := #[.int .i64 t297, .int .i64 t302, .int .i64 0, .slice none 0 0]) ?_ 2 _ rfl; (with_reducible repeat (first | refine blk_drewN ?_ _ | refine blk_drew ?_ | refine blk_alloc ?_ _)); refine blk_put (cs := #[.int .i64 t297, .int .i64 0, .int .i64 0, .slice none 0 0]) ?_ 1 _ rfl; (with_reducible repeat (first | refine blk_drewN ?_ _ | refine blk_drew ?_ | refine blk_alloc ?_ _)); refine blk_put (cs := #[.int .i64 0, .int .i64 0, .int .i64 0, .slice none 0 0]) ?_ 0 _ rfl; (with_reducible repeat (first | refine blk_drewN ?_ _ | refine blk_drew ?_ | refine blk_alloc ?_ _)); exact BK309.out) NB309_0.out (by simp)); have n5_ := Aside0.mk (KeepBut.trans (by repeat (first | (with_reducible first | exact HK.out | apply KeepBut.set_ | apply keep_drewN | apply keep_drew | apply keep_alloc | refine keep_far ?_ GW293.out _ | refine keep_far ?_ GW309.out _) | exact HK.out)) hk (.inl rfl)); have n6_ := Aside0.mk (hb); have n7_ := Aside0.mk (hi); clear BK293; clear HO296; clear HO301; clear HO306; clear BK309; clear HK; clear HB; clear HI0; have BK293 := n0_; have HO296 := n1_; have HO301 := n2_; have HO306 := n3_; have BK309 := n4_; have HK := n5_; have HB := n6_; have HI0 := n7_; clear n0_ n1_ n2_ n3_ n4_ n5_ n6_ n7_; (try clear hb); (try clear hb2); (try clear hk); (try clear hi)))
  go_loopg [4] k (fun kq v4 w' => ∃ (x4_1 : Int) (x1001_1 : Int) (x310003_1 : List (S34)) (u310003 : Value), v4 = .int .i64 x4_1 ∧ Aside0 (kauditmake_Src_Record.l0 kq x4_1 s0_0 x1001_1 t297 t302 t307 x310003_1 = some (r1, r2, r3, r4, r5)) ∧ Aside0 (kq ≤ k) ∧ Aside0 (Kd.R k34 34 w' w.heap.size (fun _ => True) u310003 x310003_1) ∧ Aside0 (w'.heap[gb293]? = some (.cells #[.int .i64 0, .int .i64 0, .int .i64 0, (.slice none 0 0)] 50 (0, 0))) ∧ Aside0 (w'.heap[gb309]? = some (.cells #[.int .i64 t297, .int .i64 t302, .int .i64 t307, u310003] 50 (0, 0))) ∧ Aside0 (IsS107 w0 w' g s0_0 x1001_1) ∧ Aside0 (KeepBut w w' g none) ∧ Aside0 (Below w0.heap.size w0 w'))
  case atStart => exact ⟨(t310), (t311), (([] : List (S34))), (.slice none 0 0), (by first | rfl | (simp; done) | (simp [*]; done) | (simp only [isEmpty_ne_]; done)), H', ⟨Nat.le_refl _⟩, ⟨by first | exact Kd.R_nil _ _ _ _ _ | exact Kd.N_nil _ _ _ _ _ | exact Kd.V_nil _ _ _ _ _ | exact Kd.Q_nil _ _ _ _ _ | exact Kd.S_nil _ _ _ _ _⟩, ⟨by (with_reducible repeat (first | refine blk_drewN ?_ _ | refine blk_drew ?_ | refine blk_alloc ?_ _)); exact BK293.out⟩, ⟨by (with_reducible repeat (first | refine blk_drewN ?_ _ | refine blk_drew ?_ | refine blk_alloc ?_ _)); exact BK309.out⟩, ⟨by repeat (first | (with_reducible first | exact HI0.out | apply IsS107.alloc | apply IsS107.drewN | apply IsS107.drew | apply IsS107.set_1 | refine IsS107.far ?_ NB0_293.out _ | refine IsS107.far ?_ NB0_309.out _) | exact HI0.out)⟩, ⟨by repeat (first | (with_reducible first | exact HK.out | apply KeepBut.set_ | apply keep_drewN | apply keep_drew | apply keep_alloc | refine keep_far ?_ GW293.out _ | refine keep_far ?_ GW309.out _) | exact HK.out)⟩, ⟨by repeat (first | (with_reducible first | exact HB.out | apply below_alloc | apply pw_below_drewN | apply below_drew1 | refine below_set ?_ (IsS107.ge HI0.out) | refine below_set ?_ GE293.out | refine below_set ?_ GE309.out) | exact HB.out)⟩⟩
  case round =>
    clear H'
    try clear c2
    try clear p2
    try clear c3
    try clear c7
    try clear c20
    try clear c21
    try clear hcz22_0
    try clear hcz22_1
    try clear hcz22_2
    try clear hcz22_3
    try clear hfz22_0
    try clear hfz22_1
    try clear hfz22_2
    try clear hfz22_3
    obtain ⟨x4_1, x1001_1, x310003_1, u310003, rfl, HA, HK1, HO_310003, BK293, BK309, HI0, HK, HB⟩ := hrel
    cases gk with
    | zero => exact absurd HA.out (by simp [kauditmake_Src_Record.l0])
    | succ k1 =>
      have H := HA.out
      clear HA
      simp only [kauditmake_Src_Record.l0] at H
      by_cases c24 : x4_1 > 0
      · rw [if_pos c24] at H
        have c24b0 : decide (0 < x4_1) = true := decide_eq_true c24
        clear c24
        replace H := Option.bind_eq_some_iff.mp H
        obtain ⟨⟨t312, t313, t314, t315, t316⟩, A250, H⟩ := H
        replace H : (if x310003_1.length < 2932031007402 then (kauditmake_Src_Record.l0 k1 (wrap64 (x4_1 - 1)) s0_0 t316 t297 t302 t307 (x310003_1 ++ [(⟨t312, t313, t314, t315⟩ : S34)])) else (none)) = some (r1, r2, r3, r4, r5) := H
        have A25 := Aside0.mk A250
        clear A250
        by_cases c26 : x310003_1.length < 2932031007402
        · rw [if_pos c26] at H
          have LMc26 := Aside0.mk c26
          clear c26
          obtain ⟨y317, hy317⟩ : ∃ y_ : List (S34), y_ = (x310003_1 ++ [(⟨t312, t313, t314, t315⟩ : S34)]) := ⟨_, rfl⟩
          replace H : (kauditmake_Src_Record.l0 k1 (wrap64 (x4_1 - 1)) s0_0 t316 t297 t302 t307 y317) = some (r1, r2, r3, r4, r5) := by first | (rw [hy317]; with_reducible exact H) | (have H2_ := (Option.bind_some _ _).symm.trans H; rw [hy317]; with_reducible exact H2_) | (have H2_ := (Option.bind_some _ _).symm.trans H; with_reducible exact H2_) | with_reducible exact H | (rw [hy317]; exact H) | exact H
          have Ny317 := Aside0.mk hy317
          clear hy317
          have H' := Aside0.mk H
          clear H
          try go_wp2
          have n0_ := Aside0.mk (Kd.R_drew HO_310003.out)
          have n1_ := Aside0.mk (blk_drew BK293.out)
          have n2_ := Aside0.mk (blk_drew BK309.out)
          have n3_ := Aside0.mk (IsS107.drew HI0.out)
          have n4_ := Aside0.mk (keep_drew HK.out)
          have n5_ := Aside0.mk (below_drew1 HB.out)
          clear HO_310003
          clear BK293
          clear BK309
          clear HI0
          clear HK
          clear HB
          have HO_310003 := n0_
          have BK293 := n1_
          have BK309 := n2_
          have HI0 := n3_
          have HK := n4_
          have HB := n5_
          clear n0_ n1_ n2_ n3_ n4_ n5_
          refine start_ (n := 8) (S := fun w' => w'.cell? ⟨gb309, 0, none⟩ = some (.int .i64 t297) ∧ w'.cell? ⟨gb309, 1, none⟩ = some (.int .i64 t302) ∧ w'.cell? ⟨gb309, 2, none⟩ = some (.int .i64 t307) ∧ w'.cell? ⟨gb309, 3, none⟩ = some (u310003)) (ds := [7]) #[false, false, false, false, false, false, false, false] (by kernel_rfl) rfl rfl ⟨(blk_cell BK309.out 0).trans rfl, (blk_cell BK309.out 1).trans rfl, (blk_cell BK309.out 2).trans rfl, (blk_cell BK309.out 3).trans rfl⟩ (fun hHeld => ?_); refine with_tabW kauditmake_Src_Record.tab5 kauditmake_Src_Record.bits5 (fun HT_ HW_ => ?_)
          generalize wr.drew = w27 at HO_310003 BK293 BK309 HI0 HK HB hHeld ⊢
          refine pure_ (i := 0) (N := some 21) (v := ?_) (a' := ?_) #[true, false, false, false, false, false, false, false] rfl rfl (any_of HT_.out (by kernel_rfl)) (fun _ _ _ h => h) (Or.inl ⟨by rfl, ?_⟩) ?_ ?_
          rotate_left
          · intro w'
            go_simp
            with_reducible rfl
          rotate_left
          · simp only [Act.put, List.setIfInBounds_toArray, List.set_cons_zero, List.set_cons_succ, i64_w, i32_w]
            rfl
          refine pure_ (i := 2) (N := some 23) (v := ?_) (a' := ?_) #[true, false, true, false, false, false, false, false] rfl rfl (any_of HT_.out (by kernel_rfl)) (fun _ _ _ h => h) (Or.inl ⟨by rfl, ?_⟩) ?_ ?_
          rotate_left
          · intro w'
            go_simp
            with_reducible rfl
          rotate_left
          · simp only [Act.put, List.setIfInBounds_toArray, List.set_cons_zero, List.set_cons_succ, i64_w, i32_w]
            rfl
          refine take_ (i := 1) (N := some 22) (v := ?_) (a' := ?_) #[true, true, true, false, false, false, false, false] rfl rfl (take_ofW HT_.out HW_.out (by kernel_rfl)) (fun _ _ _ h => h) (Or.inl ⟨by rfl, ?_⟩) hHeld ?_ ?_
          rotate_left
          · rintro w' ⟨s0, s1, s2, s3⟩
            go_simp
            with_reducible rfl
          rotate_left
          · simp only [Act.put, List.setIfInBounds_toArray, List.set_cons_zero, List.set_cons_succ, i64_w, i32_w]
            rfl
          refine one_ (i := 3) (N := some 24) #[true, true, true, true, false, false, false, false] rfl rfl (one_of HT_.out (by kernel_rfl)) (by decide) (fun K hK => ?_)
          refine goes_ Tryd.func35 (by kernel_rfl) rfl #[.pointer (some ⟨g, 0, none⟩)] (by rfl) rfl rfl (by (try simp only [List.map_toArray, List.map_cons, List.map_nil]); first | done | rfl | (simp only [List.length_drop, List.length_take]; rfl)) ?_
          with_reducible refine (kauditmake_Src_Pair.calls k1 g s0_0 x1001_1 t312 t313 t314 t315 t316 w0 _ ?side1 ?side2 A25.out).mono ?_
          (case side1 => repeat (first | (with_reducible first | exact HI0.out | apply IsS107.alloc | apply IsS107.drewN | apply IsS107.drew | apply IsS107.set_1 | refine IsS107.far ?_ NB0_293.out _ | refine IsS107.far ?_ NB0_309.out _) | exact HI0.out))
          (case side2 => repeat (first | (with_reducible first | exact HB.out | apply below_alloc | apply pw_below_drewN | apply below_drew1 | refine below_set ?_ (IsS107.ge HI0.out) | refine below_set ?_ GE293.out | refine below_set ?_ GE309.out) | exact HB.out))
          rintro e w28 ⟨rfl, hi, hb, hk⟩
          refine ⟨_, rfl, ?_⟩
          have n0_ := Aside0.mk (Kd.R_mono (Kd.R_keep (IsS107.apart (show IsS107 w0 _ g s0_0 x1001_1 from by repeat (first | (with_reducible first | exact HI0.out | apply IsS107.alloc | apply IsS107.drewN | apply IsS107.drew | apply IsS107.set_1 | refine IsS107.far ?_ NB0_293.out _ | refine IsS107.far ?_ NB0_309.out _) | exact HI0.out)) (by (with_reducible repeat (first | apply Kd.R_alloc | apply Kd.R_drewN | apply Kd.R_drew)); exact HO_310003.out) (by decide)) hk (fun _ h => h.2)) (fun _ h => h.1))
          have n1_ := Aside0.mk (KeepBut.blk hk (g' := gb293) (o := .cells #[.int .i64 0, .int .i64 0, .int .i64 0, .slice none 0 0] 50 (0, 0)) (by (with_reducible repeat (first | refine blk_drewN ?_ _ | refine blk_drew ?_ | refine blk_alloc ?_ _)); exact BK293.out) NB293_0.out (by simp))
          have n2_ := Aside0.mk (KeepBut.blk hk (g' := gb309) (o := .cells #[.int .i64 t297, .int .i64 t302, .int .i64 t307, u310003] 50 (0, 0)) (by (with_reducible repeat (first | refine blk_drewN ?_ _ | refine blk_drew ?_ | refine blk_alloc ?_ _)); exact BK309.out) NB309_0.out (by simp))
          have n3_ := Aside0.mk (KeepBut.trans (by repeat (first | (with_reducible first | exact HK.out | apply KeepBut.set_ | apply keep_drewN | apply keep_drew | apply keep_alloc | refine keep_far ?_ GW293.out _ | refine keep_far ?_ GW309.out _) | exact HK.out)) hk (.inl rfl))
          have n4_ := Aside0.mk (hb)
          have n5_ := Aside0.mk (hi)
          clear HO_310003
          clear BK293
          clear BK309
          clear HK
          clear HB
          clear HI0
          have HO_310003 := n0_
          have BK293 := n1_
          have BK309 := n2_
          have HK := n3_
          have HB := n4_
          have HI0 := n5_
          clear n0_ n1_ n2_ n3_ n4_ n5_
          (try clear hb)
          (try clear hb2)
          (try clear hk)
          (try clear hi)
          refine hK.out _ _ ⟨(blk_cell BK309.out 0).trans rfl, (blk_cell BK309.out 1).trans rfl, (blk_cell BK309.out 2).trans rfl, (blk_cell BK309.out 3).trans rfl⟩ (fun hHeld => ?_)
          clear hK K
          refine norm_ (a' := ?_) ?_ ?_
          rotate_left
          · show Act.put _ (some 24) _ = _
            simp only [Act.put, List.setIfInBounds_toArray, List.set_cons_zero, List.set_cons_succ, i64_w, i32_w]
            rfl
          refine one_ (i := 4) (N := some 25) #[true, true, true, true, true, false, false, false] rfl rfl (one_of HT_.out (by kernel_rfl)) (by decide) (fun K hK => ?_)
          refine value_ (w1 := ?_) (v := ?_) (by rfl) rfl ?_ ?_
          rotate_left 2
          · go_simp
            constructor
            · rfl
            · rfl
          refine hK.out _ _ ⟨(blk_cell (blk_alloc BK309.out _) 0).trans rfl, (blk_cell (blk_alloc BK309.out _) 1).trans rfl, (blk_cell (blk_alloc BK309.out _) 2).trans rfl, (blk_cell (blk_alloc BK309.out _) 3).trans rfl⟩ (fun hHeld => ?_)
          clear hK K
          refine norm_ (a' := ?_) ?_ ?_
          rotate_left
          · show Act.put _ (some 25) _ = _
            simp only [Act.put, List.setIfInBounds_toArray, List.set_cons_zero, List.set_cons_succ, i64_w, i32_w]
            rfl
          refine one_ (i := 5) (N := some 26) #[true, true, true, true, true, true, false, false] rfl rfl (one_of HT_.out (by kernel_rfl)) (by decide) (fun K hK => ?_)
          refine Kd.R_append_step k34 w.heap.size (by rfl) (.tmp 22) (.tmp 25) 35 34 (.agg #[(.string ⟨#[]⟩), (.int .i64 0), (.int .i64 0), (.string ⟨#[]⟩)]) 48 rfl Tryd.underlying35 info34 rfl (by decide) (by omega) u310003 x310003_1 (⟨t312, t313, t314, t315⟩ : S34) [.string t312, .int .i64 t313, .int .i64 t314, .string t315] (fun _ => True) (fun _ => False) rfl rfl ?aP (fun _ hk => hk.elim) ?aF ?aO (Below.refl _ _) ?aS ?aL ?_
          (case aP => exact k34_mkM _ _ _ (⟨t312, t313, t314, t315⟩ : S34))
          (case aF => exact (fun _ _ => trivial))
          (case aO => exact (by (with_reducible repeat (first | apply Kd.R_alloc | apply Kd.R_drewN | apply Kd.R_drew)); exact HO_310003.out))
          (case aS => exact (keep_size (w := w) (g := g) (row := none) (by repeat (first | (with_reducible first | exact HK.out | apply KeepBut.set_ | apply keep_drewN | apply keep_drew | apply keep_alloc | refine keep_far ?_ GW293.out _ | refine keep_far ?_ GW309.out _) | exact HK.out))))
          (case aL => have := LMc26.out; omega)
          intro v318 w29 ho hb hg hat
          rw [← Ny317.out] at ho
          have n0_ := Aside0.mk (blk_grown (g := gb293) (o := .cells #[.int .i64 0, .int .i64 0, .int .i64 0, .slice none 0 0] 50 (0, 0)) (by (with_reducible repeat (first | refine blk_drewN ?_ _ | refine blk_drew ?_ | refine blk_alloc ?_ _)); exact BK293.out) hg (Kd.R_ne HO_310003.out BK293.out (by decide)))
          have n1_ := Aside0.mk (blk_grown (g := gb309) (o := .cells #[.int .i64 t297, .int .i64 t302, .int .i64 t307, u310003] 50 (0, 0)) (by (with_reducible repeat (first | refine blk_drewN ?_ _ | refine blk_drew ?_ | refine blk_alloc ?_ _)); exact BK309.out) hg (Kd.R_ne HO_310003.out BK309.out (by decide)))
          have n2_ := Aside0.mk (IsS107.grown (by repeat (first | (with_reducible first | exact HI0.out | apply IsS107.alloc | apply IsS107.drewN | apply IsS107.drew | apply IsS107.set_1 | refine IsS107.far ?_ NB0_293.out _ | refine IsS107.far ?_ NB0_309.out _) | exact HI0.out)) hg (IsS107.own_ne HI0.out HO_310003.out (by decide)))
          have n3_ := Aside0.mk (below_weaken (by repeat (first | (with_reducible first | exact HB.out | apply below_alloc | apply pw_below_drewN | apply below_drew1 | refine below_set ?_ (IsS107.ge HI0.out) | refine below_set ?_ GE293.out | refine below_set ?_ GE309.out) | exact HB.out)) HL.out hb)
          have n4_ := Aside0.mk (KeepBut.trans (by repeat (first | (with_reducible first | exact HK.out | apply KeepBut.set_ | apply keep_drewN | apply keep_drew | apply keep_alloc | refine keep_far ?_ GW293.out _ | refine keep_far ?_ GW309.out _) | exact HK.out)) (KeepBut.of_grown hg g) (Kd.R_base2 HO_310003.out))
          have n5_ := Aside0.mk (ho)
          clear BK293
          clear BK309
          clear HI0
          clear HB
          clear HK
          clear HO_310003
          have BK293 := n0_
          have BK309 := n1_
          have HI0 := n2_
          have HB := n3_
          have HK := n4_
          have HO319 := n5_
          clear n0_ n1_ n2_ n3_ n4_ n5_
          clear ho hb hg hat
          obtain ⟨Ao30, co30, eo30⟩ := Kd.R_slice HO319.out
          (first | subst eo30 | (injection eo30 with f1_ f2_ f3_; have f4_ := f1_.symm; have f5_ := f3_.symm; clear f1_ f2_ f3_; subst f4_; subst f5_))
          refine hK.out _ _ ⟨(blk_cell BK309.out 0).trans rfl, (blk_cell BK309.out 1).trans rfl, (blk_cell BK309.out 2).trans rfl, (blk_cell BK309.out 3).trans rfl⟩ (fun hHeld => ?_)
          clear hK K
          refine norm_ (a' := ?_) ?_ ?_
          rotate_left
          · show Act.put _ (some 26) _ = _
            simp only [Act.put, List.setIfInBounds_toArray, List.set_cons_zero, List.set_cons_succ, i64_w, i32_w]
            rfl
          refine pure_ (i := 6) (N := some 27) (v := ?_) (a' := ?_) #[true, true, true, true, true, true, true, false] rfl rfl (any_of HT_.out (by kernel_rfl)) (fun _ _ _ h => h) (Or.inl ⟨by rfl, ?_⟩) ?_ ?_
          rotate_left
          · intro w'
            go_simp
            with_reducible rfl
          rotate_left
          · simp only [Act.put, List.setIfInBounds_toArray, List.set_cons_zero, List.set_cons_succ, i64_w, i32_w]
            rfl
          refine last_ (i := 7) (N := none) #[true, true, true, true, true, true, true, true] rfl rfl (one_of HT_.out (by kernel_rfl)) (by decide) (fun K hK => ?_)
          have hs31 : w29.cell? ⟨gb309, 3, none⟩ = some (u310003) := (blk_cell BK309.out 3).trans rfl
          have hfs31 := blk_frozen BK309.out 3
          have hns31_0 := NB293_309.out
          have hms31_0 := NB309_293.out
          refine skip_ (w1 := ?_) (by rfl) rfl ?_ ?_
          rotate_left
          · go_simp
            rfl
          refine hK.out _ _ ?_
          clear hK K
          refine done_ (done_of HT_.out (by kernel_rfl)) ?_
          try go_wp2
          go_roundg k1
          case measure => have := HK1.out; omega
          case rel => exact ⟨(wrap64 (x4_1 - 1)), (t316), (y317), (.slice Ao30 y317.length co30), (by first | rfl | (simp; done) | (simp [*]; done) | (simp only [isEmpty_ne_]; done)), H', ⟨by have := HK1.out; omega⟩, ⟨by (with_reducible repeat (first | apply Kd.R_alloc | apply Kd.R_drewN | apply Kd.R_drew)); exact Kd.R_mono (Kd.R_far (p := ⟨gb309, 3, none⟩) (Kd.R_types HO319.out BK309.out (by decide)) (fun _ hk => hk.2) (.slice Ao30 y317.length co30)) (fun _ hk => trivial)⟩, ⟨by (with_reducible repeat (first | refine blk_drewN ?_ _ | refine blk_drew ?_ | refine blk_alloc ?_ _)); refine blk_far ?_ NB293_309.out _; (with_reducible repeat (first | refine blk_drewN ?_ _ | refine blk_drew ?_ | refine blk_alloc ?_ _)); exact BK293.out⟩, ⟨by (with_reducible repeat (first | refine blk_drewN ?_ _ | refine blk_drew ?_ | refine blk_alloc ?_ _)); refine blk_put (cs := #[.int .i64 t297, .int .i64 t302, .int .i64 t307, u310003]) ?_ 3 _ rfl; (with_reducible repeat (first | refine blk_drewN ?_ _ | refine blk_drew ?_ | refine blk_alloc ?_ _)); exact BK309.out⟩, ⟨by repeat (first | (with_reducible first | exact HI0.out | apply IsS107.alloc | apply IsS107.drewN | apply IsS107.drew | apply IsS107.set_1 | refine IsS107.far ?_ NB0_293.out _ | refine IsS107.far ?_ NB0_309.out _) | exact HI0.out)⟩, ⟨by repeat (first | (with_reducible first | exact HK.out | apply KeepBut.set_ | apply keep_drewN | apply keep_drew | apply keep_alloc | refine keep_far ?_ GW293.out _ | refine keep_far ?_ GW309.out _) | exact HK.out)⟩, ⟨by repeat (first | (with_reducible first | exact HB.out | apply below_alloc | apply pw_below_drewN | apply below_drew1 | refine below_set ?_ (IsS107.ge HI0.out) | refine below_set ?_ GE293.out | refine below_set ?_ GE309.out) | exact HB.out)⟩⟩
        · rw [if_neg c26] at H
          exact absurd H (by simp)
      · rw [if_neg c24] at H
        have c24b0 : decide (0 < x4_1) = false := decide_eq_false c24
        clear c24
        replace H := Option.bind_eq_some_iff.mp H
        obtain ⟨⟨t320, t321⟩, A320, H⟩ := H
        replace H : (if t320 = 19 then ((kauditmake_Src_Range.f s0_0 t321 1299 1303).bind fun bt322 => ((kauditmake_Src_Range.f s0_0 bt322.2 (-1) 1).bind fun bt324 => (some (bt322.1, bt324.1, t307, x310003_1, bt324.2)))) else (some (t297, t302, t307, x310003_1, t321))) = some (r1, r2, r3, r4, r5) := H
        have A32 := Aside0.mk A320
        clear A320
        by_cases c33 : t320 = 19
        · rw [if_pos c33] at H
          have c33b0 : (t320 == 19) = true := beq_iff_eq.mpr c33
          have c33b1 : (t320 != 19) = false := bne_eq_false_iff_eq.mpr c33
          clear c33
          replace H := Option.bind_eq_some_iff.mp H
          obtain ⟨⟨t322, t323⟩, A340, H⟩ := H
          replace H : ((kauditmake_Src_Range.f s0_0 t323 (-1) 1).bind fun bt324 => (some (t322, bt324.1, t307, x310003_1, bt324.2))) = some (r1, r2, r3, r4, r5) := H
          have A34 := Aside0.mk A340
          clear A340
          replace H := Option.bind_eq_some_iff.mp H
          obtain ⟨⟨t324, t325⟩, A350, H⟩ := H
          replace H : (some (t322, t324, t307, x310003_1, t325)) = some (r1, r2, r3, r4, r5) := H
          have A35 := Aside0.mk A350
          clear A350
          simp only [Option.some.injEq, Prod.mk.injEq] at H
          obtain ⟨rfl, rfl, rfl, rfl, rfl⟩ := H
          go_wp2_with (first | ((with_reducible refine gate_callee (f := 34) rfl ?_); refine goesL_ (some 29) rfl rfl Tryd.func34 (by kernel_rfl) rfl #[.pointer (some ⟨g, 0, none⟩), .int .i64 20] rfl (by (try simp only [List.map_toArray, List.map_cons, List.map_nil]); first | done | rfl | (simp only [List.length_drop, List.length_take]; rfl)) ?_; (with_reducible refine (kauditmake_Src_N.calls g s0_0 x1001_1 20 t320 t321 w0 _ ?side1 ?side2 A32.out).mono ?_); (case side1 => repeat (first | (with_reducible first | exact HI0.out | apply IsS107.alloc | apply IsS107.drewN | apply IsS107.drew | apply IsS107.set_1 | refine IsS107.far ?_ NB0_293.out _ | refine IsS107.far ?_ NB0_309.out _) | exact HI0.out)); (case side2 => repeat (first | (with_reducible first | exact HB.out | apply below_alloc | apply pw_below_drewN | apply below_drew1 | refine below_set ?_ (IsS107.ge HI0.out) | refine below_set ?_ GE293.out | refine below_set ?_ GE309.out) | exact HB.out)); rintro e w36 ⟨rfl, hi, hb, hk⟩; refine ⟨_, rfl, ?_⟩; have n0_ := Aside0.mk (Kd.R_mono (Kd.R_keep (IsS107.apart (show IsS107 w0 _ g s0_0 x1001_1 from by repeat (first | (with_reducible first | exact HI0.out | apply IsS107.alloc | apply IsS107.drewN | apply IsS107.drew | apply IsS107.set_1 | refine IsS107.far ?_ NB0_293.out _ | refine IsS107.far ?_ NB0_309.out _) | exact HI0.out)) (by (with_reducible repeat (first | apply Kd.R_alloc | apply Kd.R_drewN | apply Kd.R_drew)); exact HO_310003.out) (by decide)) hk (fun _ h => h.2)) (fun _ h => h.1)); have n1_ := Aside0.mk (KeepBut.blk hk (g' := gb293) (o := .cells #[.int .i64 0, .int .i64 0, .int .i64 0, .slice none 0 0] 50 (0, 0)) (by (with_reducible repeat (first | refine blk_drewN ?_ _ | refine blk_drew ?_ | refine blk_alloc ?_ _)); exact BK293.out) NB293_0.out (by simp)); have n2_ := Aside0.mk (KeepBut.blk hk (g' := gb309) (o := .cells #[.int .i64 t297, .int .i64 t302, .int .i64 t307, u310003] 50 (0, 0)) (by (with_reducible repeat (first | refine blk_drewN ?_ _ | refine blk_drew ?_ | refine blk_alloc ?_ _)); exact BK309.out) NB309_0.out (by simp)); have n3_ := Aside0.mk (KeepBut.trans (by repeat (first | (with_reducible first | exact HK.out | apply KeepBut.set_ | apply keep_drewN | apply keep_drew | apply keep_alloc | refine keep_far ?_ GW293.out _ | refine keep_far ?_ GW309.out _) | exact HK.out)) hk (.inl rfl)); have n4_ := Aside0.mk (hb); have n5_ := Aside0.mk (hi); clear HO_310003; clear BK293; clear BK309; clear HK; clear HB; clear HI0; have HO_310003 := n0_; have BK293 := n1_; have BK309 := n2_; have HK := n3_; have HB := n4_; have HI0 := n5_; clear n0_ n1_ n2_ n3_ n4_ n5_; (try clear hb); (try clear hb2); (try clear hk); (try clear hi)) | ((with_reducible refine gate_callee (f := 75) rfl ?_); refine goesL_ (some 32) rfl rfl Tryd.func75 (by kernel_rfl) rfl #[.pointer (some ⟨g, 0, none⟩), .int .i64 1299, .int .i64 1303] rfl (by (try simp only [List.map_toArray, List.map_cons, List.map_nil]); first | done | rfl | (simp only [List.length_drop, List.length_take]; rfl)) ?_; (with_reducible refine (kauditmake_Src_Range.calls g s0_0 t321 1299 1303 t322 t323 w0 _ ?side1 ?side2 A34.out).mono ?_); (case side1 => repeat (first | (with_reducible first | exact HI0.out | apply IsS107.alloc | apply IsS107.drewN | apply IsS107.drew | apply IsS107.set_1 | refine IsS107.far ?_ NB0_293.out _ | refine IsS107.far ?_ NB0_309.out _) | exact HI0.out)); (case side2 => repeat (first | (with_reducible first | exact HB.out | apply below_alloc | apply pw_below_drewN | apply below_drew1 | refine below_set ?_ (IsS107.ge HI0.out) | refine below_set ?_ GE293.out | refine below_set ?_ GE309.out) | exact HB.out)); rintro e w37 ⟨rfl, hi, hb, hk⟩; refine ⟨_, rfl, ?_⟩; have n0_ := Aside0.mk (Kd.R_mono (Kd.R_keep (IsS107.apart (show IsS107 w0 _ g s0_0 t321 from by repeat (first | (with_reducible first | exact HI0.out | apply IsS107.alloc | apply IsS107.drewN | apply IsS107.drew | apply IsS107.set_1 | refine IsS107.far ?_ NB0_293.out _ | refine IsS107.far ?_ NB0_309.out _) | exact HI0.out)) (by (with_reducible repeat (first | apply Kd.R_alloc | apply Kd.R_drewN | apply Kd.R_drew)); exact HO_310003.out) (by decide)) hk (fun _ h => h.2)) (fun _ h => h.1)); have n1_ := Aside0.mk (KeepBut.blk hk (g' := gb293) (o := .cells #[.int .i64 0, .int .i64 0, .int .i64 0, .slice none 0 0] 50 (0, 0)) (by (with_reducible repeat (first | refine blk_drewN ?_ _ | refine blk_drew ?_ | refine blk_alloc ?_ _)); exact BK293.out) NB293_0.out (by simp)); have n2_ := Aside0.mk (KeepBut.blk hk (g' := gb309) (o := .cells #[.int .i64 t297, .int .i64 t302, .int .i64 t307, u310003] 50 (0, 0)) (by (with_reducible repeat (first | refine blk_drewN ?_ _ | refine blk_drew ?_ | refine blk_alloc ?_ _)); exact BK309.out) NB309_0.out (by simp)); have n3_ := Aside0.mk (KeepBut.trans (by repeat (first | (with_reducible first | exact HK.out | apply KeepBut.set_ | apply keep_drewN | apply keep_drew | apply keep_alloc | refine keep_far ?_ GW293.out _ | refine keep_far ?_ GW309.out _) | exact HK.out)) hk (.inl rfl)); have n4_ := Aside0.mk (hb); have n5_ := Aside0.mk (hi); clear HO_310003; clear BK293; clear BK309; clear HK; clear HB; clear HI0; have HO_310003 := n0_; have BK293 := n1_; have BK309 := n2_; have HK := n3_; have HB := n4_; have HI0 := n5_; clear n0_ n1_ n2_ n3_ n4_ n5_; (try clear hb); (try clear hb2); (try clear hk); (try clear hi)) | ((with_reducible refine gate_callee (f := 75) rfl ?_); refine goesL_ (some 34) rfl rfl Tryd.func75 (by kernel_rfl) rfl #[.pointer (some ⟨g, 0, none⟩), .int .i64 (-1), .int .i64 1] rfl (by (try simp only [List.map_toArray, List.map_cons, List.map_nil]); first | done | rfl | (simp only [List.length_drop, List.length_take]; rfl)) ?_; (with_reducible refine (kauditmake_Src_Range.calls g s0_0 t323 (-1) 1 t324 t325 w0 _ ?side1 ?side2 A35.out).mono ?_); (case side1 => repeat (first | (with_reducible first | exact HI0.out | apply IsS107.alloc | apply IsS107.drewN | apply IsS107.drew | apply IsS107.set_1 | refine IsS107.far ?_ NB0_293.out _ | refine IsS107.far ?_ NB0_309.out _) | exact HI0.out)); (case side2 => repeat (first | (with_reducible first | exact HB.out | apply below_alloc | apply pw_below_drewN | apply below_drew1 | refine below_set ?_ (IsS107.ge HI0.out) | refine below_set ?_ GE293.out | refine below_set ?_ GE309.out) | exact HB.out)); rintro e w38 ⟨rfl, hi, hb, hk⟩; refine ⟨_, rfl, ?_⟩; have n0_ := Aside0.mk (Kd.R_mono (Kd.R_keep (IsS107.apart (show IsS107 w0 _ g s0_0 t323 from by repeat (first | (with_reducible first | exact HI0.out | apply IsS107.alloc | apply IsS107.drewN | apply IsS107.drew | apply IsS107.set_1 | refine IsS107.far ?_ NB0_293.out _ | refine IsS107.far ?_ NB0_309.out _) | exact HI0.out)) (by (with_reducible repeat (first | apply Kd.R_alloc | apply Kd.R_drewN | apply Kd.R_drew)); exact HO_310003.out) (by decide)) hk (fun _ h => h.2)) (fun _ h => h.1)); have n1_ := Aside0.mk (KeepBut.blk hk (g' := gb293) (o := .cells #[.int .i64 0, .int .i64 0, .int .i64 0, .slice none 0 0] 50 (0, 0)) (by (with_reducible repeat (first | refine blk_drewN ?_ _ | refine blk_drew ?_ | refine blk_alloc ?_ _)); exact BK293.out) NB293_0.out (by simp)); have n2_ := Aside0.mk (KeepBut.blk hk (g' := gb309) (o := .cells #[.int .i64 t297, .int .i64 t302, .int .i64 t307, u310003] 50 (0, 0)) (by (with_reducible repeat (first | refine blk_drewN ?_ _ | refine blk_drew ?_ | refine blk_alloc ?_ _)); exact BK309.out) NB309_0.out (by simp)); have n3_ := Aside0.mk (KeepBut.trans (by repeat (first | (with_reducible first | exact HK.out | apply KeepBut.set_ | apply keep_drewN | apply keep_drew | apply keep_alloc | refine keep_far ?_ GW293.out _ | refine keep_far ?_ GW309.out _) | exact HK.out)) hk (.inl rfl)); have n4_ := Aside0.mk (hb); have n5_ := Aside0.mk (hi); clear HO_310003; clear BK293; clear BK309; clear HK; clear HB; clear HI0; have HO_310003 := n0_; have BK293 := n1_; have BK309 := n2_; have HK := n3_; have HB := n4_; have HI0 := n5_; clear n0_ n1_ n2_ n3_ n4_ n5_; (try clear hb); (try clear hb2); (try clear hk); (try clear hi); have hnb39 := NB309_293.out; have hnc39 := NB293_309.out; have hnb40 := NB309_0.out; have hnc40 := NB0_309.out; have hcz41_0 : w38.cell? ⟨gb309, 0, none⟩ = some (.int .i64 t297) := (blk_cell BK309.out 0).trans rfl; have hcz41_1 : w38.cell? ⟨gb309, 1, none⟩ = some (.int .i64 t302) := (blk_cell BK309.out 1).trans rfl; have hcz41_2 : w38.cell? ⟨gb309, 2, none⟩ = some (.int .i64 t307) := (blk_cell BK309.out 2).trans rfl; have hcz41_3 : w38.cell? ⟨gb309, 3, none⟩ = some (u310003) := (blk_cell BK309.out 3).trans rfl; have hfz41_0 := blk_frozen BK309.out 0; have hfz41_1 := blk_frozen BK309.out 1; have hfz41_2 := blk_frozen BK309.out 2; have hfz41_3 := blk_frozen BK309.out 3; have hnb42 := NB293_0.out; have hnc42 := NB0_293.out; have hcz43_0 : w38.cell? ⟨gb293, 0, none⟩ = some (.int .i64 0) := (blk_cell BK293.out 0).trans rfl; have hcz43_1 : w38.cell? ⟨gb293, 1, none⟩ = some (.int .i64 0) := (blk_cell BK293.out 1).trans rfl; have hcz43_2 : w38.cell? ⟨gb293, 2, none⟩ = some (.int .i64 0) := (blk_cell BK293.out 2).trans rfl; have hcz43_3 : w38.cell? ⟨gb293, 3, none⟩ = some (.slice none 0 0) := (blk_cell BK293.out 3).trans rfl; have hfz43_0 := blk_frozen BK293.out 0; have hfz43_1 := blk_frozen BK293.out 1; have hfz43_2 := blk_frozen BK293.out 2; have hfz43_3 := blk_frozen BK293.out 3; obtain ⟨Ao44, co44, eo44⟩ := Kd.R_slice HO_310003.out; subst eo44))
          refine bodyPost_ret (results_cell_row rfl _ _ gb293 50 #[.int .i64 t322, .int .i64 t324, .int .i64 t307, .slice Ao44 x310003_1.length co44] (0, 0) _ rfl (by (with_reducible repeat (first | refine blk_drewN ?_ _ | refine blk_drew ?_ | refine blk_alloc ?_ _)); refine blk_put (cs := #[.int .i64 t322, .int .i64 t324, .int .i64 t307, .slice none 0 0]) ?_ 3 _ rfl; (with_reducible repeat (first | refine blk_drewN ?_ _ | refine blk_drew ?_ | refine blk_alloc ?_ _)); refine blk_put (cs := #[.int .i64 t322, .int .i64 t324, .int .i64 0, .slice none 0 0]) ?_ 2 _ rfl; (with_reducible repeat (first | refine blk_drewN ?_ _ | refine blk_drew ?_ | refine blk_alloc ?_ _)); refine blk_put (cs := #[.int .i64 t322, .int .i64 0, .int .i64 0, .slice none 0 0]) ?_ 1 _ rfl; (with_reducible repeat (first | refine blk_drewN ?_ _ | refine blk_drew ?_ | refine blk_alloc ?_ _)); refine blk_put (cs := #[.int .i64 0, .int .i64 0, .int .i64 0, .slice none 0 0]) ?_ 0 _ rfl; (with_reducible repeat (first | refine blk_drewN ?_ _ | refine blk_drew ?_ | refine blk_alloc ?_ _)); refine blk_far ?_ NB293_309.out _; (with_reducible repeat (first | refine blk_drewN ?_ _ | refine blk_drew ?_ | refine blk_alloc ?_ _)); refine blk_far ?_ NB293_309.out _; (with_reducible repeat (first | refine blk_drewN ?_ _ | refine blk_drew ?_ | refine blk_alloc ?_ _)); exact BK293.out) Tryd.underlying50 rfl (by kernel_rfl)) rfl ?_
          exact ⟨_, by first | rfl | (simp [errW_none, errW_some] <;> rfl) | (simp [*, errW_none, errW_some] <;> rfl) | (simp only [isEmpty_ne_, isEmpty_eq_]; rfl) | (simp [*, isEmpty_ne_, isEmpty_eq_]; done), by (with_reducible repeat (first | apply Kd.R_alloc | apply Kd.R_drewN | apply Kd.R_drew)); exact Kd.R_mono (Kd.R_far (p := ⟨gb293, 3, none⟩) (Kd.R_far (p := ⟨gb293, 2, none⟩) (Kd.R_far (p := ⟨gb293, 1, none⟩) (Kd.R_far (p := ⟨gb293, 0, none⟩) (Kd.R_far (p := ⟨gb309, 1, none⟩) (Kd.R_far (p := ⟨gb309, 0, none⟩) (Kd.R_types (Kd.R_types HO_310003.out BK309.out (by decide)) BK293.out (by decide)) (fun _ hk => hk.1.2) (.int .i64 t322)) (fun _ hk => hk.1.2) (.int .i64 t324)) (fun _ hk => hk.2) (.int .i64 t322)) (fun _ hk => hk.2) (.int .i64 t324)) (fun _ hk => hk.2) (.int .i64 t307)) (fun _ hk => hk.2) (.slice Ao44 x310003_1.length co44)) (fun _ hk => trivial), by repeat (first | (with_reducible first | exact HI0.out | apply IsS107.alloc | apply IsS107.drewN | apply IsS107.drew | apply IsS107.set_1 | refine IsS107.far ?_ NB0_293.out _ | refine IsS107.far ?_ NB0_309.out _) | exact HI0.out), by repeat (first | (with_reducible first | exact HB.out | apply below_alloc | apply pw_below_drewN | apply below_drew1 | refine below_set ?_ (IsS107.ge HI0.out) | refine below_set ?_ GE293.out | refine below_set ?_ GE309.out) | exact HB.out), by repeat (first | (with_reducible first | exact HK.out | apply KeepBut.set_ | apply keep_drewN | apply keep_drew | apply keep_alloc | refine keep_far ?_ GW293.out _ | refine keep_far ?_ GW309.out _) | exact HK.out)⟩
        · rw [if_neg c33] at H
          have c33b0 : (t320 == 19) = false := beq_eq_false_iff_ne.mpr c33
          have c33b1 : (t320 != 19) = true := bne_iff_ne.mpr c33
          simp only [Option.some.injEq, Prod.mk.injEq] at H
          obtain ⟨rfl, rfl, rfl, rfl, rfl⟩ := H
          go_wp2_with (first | ((with_reducible refine gate_callee (f := 34) rfl ?_); refine goesL_ (some 29) rfl rfl Tryd.func34 (by kernel_rfl) rfl #[.pointer (some ⟨g, 0, none⟩), .int .i64 20] rfl (by (try simp only [List.map_toArray, List.map_cons, List.map_nil]); first | done | rfl | (simp only [List.length_drop, List.length_take]; rfl)) ?_; (with_reducible refine (kauditmake_Src_N.calls g s0_0 x1001_1 20 t320 t321 w0 _ ?side1 ?side2 A32.out).mono ?_); (case side1 => repeat (first | (with_reducible first | exact HI0.out | apply IsS107.alloc | apply IsS107.drewN | apply IsS107.drew | apply IsS107.set_1 | refine IsS107.far ?_ NB0_293.out _ | refine IsS107.far ?_ NB0_309.out _) | exact HI0.out)); (case side2 => repeat (first | (with_reducible first | exact HB.out | apply below_alloc | apply pw_below_drewN | apply below_drew1 | refine below_set ?_ (IsS107.ge HI0.out) | refine below_set ?_ GE293.out | refine below_set ?_ GE309.out) | exact HB.out)); rintro e w45 ⟨rfl, hi, hb, hk⟩; refine ⟨_, rfl, ?_⟩; have n0_ := Aside0.mk (Kd.R_mono (Kd.R_keep (IsS107.apart (show IsS107 w0 _ g s0_0 x1001_1 from by repeat (first | (with_reducible first | exact HI0.out | apply IsS107.alloc | apply IsS107.drewN | apply IsS107.drew | apply IsS107.set_1 | refine IsS107.far ?_ NB0_293.out _ | refine IsS107.far ?_ NB0_309.out _) | exact HI0.out)) (by (with_reducible repeat (first | apply Kd.R_alloc | apply Kd.R_drewN | apply Kd.R_drew)); exact HO_310003.out) (by decide)) hk (fun _ h => h.2)) (fun _ h => h.1)); have n1_ := Aside0.mk (KeepBut.blk hk (g' := gb293) (o := .cells #[.int .i64 0, .int .i64 0, .int .i64 0, .slice none 0 0] 50 (0, 0)) (by (with_reducible repeat (first | refine blk_drewN ?_ _ | refine blk_drew ?_ | refine blk_alloc ?_ _)); exact BK293.out) NB293_0.out (by simp)); have n2_ := Aside0.mk (KeepBut.blk hk (g' := gb309) (o := .cells #[.int .i64 t297, .int .i64 t302, .int .i64 t307, u310003] 50 (0, 0)) (by (with_reducible repeat (first | refine blk_drewN ?_ _ | refine blk_drew ?_ | refine blk_alloc ?_ _)); exact BK309.out) NB309_0.out (by simp)); have n3_ := Aside0.mk (KeepBut.trans (by repeat (first | (with_reducible first | exact HK.out | apply KeepBut.set_ | apply keep_drewN | apply keep_drew | apply keep_alloc | refine keep_far ?_ GW293.out _ | refine keep_far ?_ GW309.out _) | exact HK.out)) hk (.inl rfl)); have n4_ := Aside0.mk (hb); have n5_ := Aside0.mk (hi); clear HO_310003; clear BK293; clear BK309; clear HK; clear HB; clear HI0; have HO_310003 := n0_; have BK293 := n1_; have BK309 := n2_; have HK := n3_; have HB := n4_; have HI0 := n5_; clear n0_ n1_ n2_ n3_ n4_ n5_; (try clear hb); (try clear hb2); (try clear hk); (try clear hi); have hnb46 := NB309_293.out; have hnc46 := NB293_309.out; have hnb47 := NB309_0.out; have hnc47 := NB0_309.out; have hcz48_0 : w45.cell? ⟨gb309, 0, none⟩ = some (.int .i64 t297) := (blk_cell BK309.out 0).trans rfl; have hcz48_1 : w45.cell? ⟨gb309, 1, none⟩ = some (.int .i64 t302) := (blk_cell BK309.out 1).trans rfl; have hcz48_2 : w45.cell? ⟨gb309, 2, none⟩ = some (.int .i64 t307) := (blk_cell BK309.out 2).trans rfl; have hcz48_3 : w45.cell? ⟨gb309, 3, none⟩ = some (u310003) := (blk_cell BK309.out 3).trans rfl; have hfz48_0 := blk_frozen BK309.out 0; have hfz48_1 := blk_frozen BK309.out 1; have hfz48_2 := blk_frozen BK309.out 2; have hfz48_3 := blk_frozen BK309.out 3; have hnb49 := NB293_0.out; have hnc49 := NB0_293.out; have hcz50_0 : w45.cell? ⟨gb293, 0, none⟩ = some (.int .i64 0) := (blk_cell BK293.out 0).trans rfl; have hcz50_1 : w45.cell? ⟨gb293, 1, none⟩ = some (.int .i64 0) := (blk_cell BK293.out 1).trans rfl; have hcz50_2 : w45.cell? ⟨gb293, 2, none⟩ = some (.int .i64 0) := (blk_cell BK293.out 2).trans rfl; have hcz50_3 : w45.cell? ⟨gb293, 3, none⟩ = some (.slice none 0 0) := (blk_cell BK293.out 3).trans rfl; have hfz50_0 := blk_frozen BK293.out 0; have hfz50_1 := blk_frozen BK293.out 1; have hfz50_2 := blk_frozen BK293.out 2; have hfz50_3 := blk_frozen BK293.out 3; obtain ⟨Ao51, co51, eo51⟩ := Kd.R_slice HO_310003.out; subst eo51))
          refine bodyPost_ret (results_cell_row rfl _ _ gb293 50 #[.int .i64 t297, .int .i64 t302, .int .i64 t307, .slice Ao51 x310003_1.length co51] (0, 0) _ rfl (by (with_reducible repeat (first | refine blk_drewN ?_ _ | refine blk_drew ?_ | refine blk_alloc ?_ _)); refine blk_put (cs := #[.int .i64 t297, .int .i64 t302, .int .i64 t307, .slice none 0 0]) ?_ 3 _ rfl; (with_reducible repeat (first | refine blk_drewN ?_ _ | refine blk_drew ?_ | refine blk_alloc ?_ _)); refine blk_put (cs := #[.int .i64 t297, .int .i64 t302, .int .i64 0, .slice none 0 0]) ?_ 2 _ rfl; (with_reducible repeat (first | refine blk_drewN ?_ _ | refine blk_drew ?_ | refine blk_alloc ?_ _)); refine blk_put (cs := #[.int .i64 t297, .int .i64 0, .int .i64 0, .slice none 0 0]) ?_ 1 _ rfl; (with_reducible repeat (first | refine blk_drewN ?_ _ | refine blk_drew ?_ | refine blk_alloc ?_ _)); refine blk_put (cs := #[.int .i64 0, .int .i64 0, .int .i64 0, .slice none 0 0]) ?_ 0 _ rfl; (with_reducible repeat (first | refine blk_drewN ?_ _ | refine blk_drew ?_ | refine blk_alloc ?_ _)); exact BK293.out) Tryd.underlying50 rfl (by kernel_rfl)) rfl ?_
          exact ⟨_, by first | rfl | (simp [errW_none, errW_some] <;> rfl) | (simp [*, errW_none, errW_some] <;> rfl) | (simp only [isEmpty_ne_, isEmpty_eq_]; rfl) | (simp [*, isEmpty_ne_, isEmpty_eq_]; done), by (with_reducible repeat (first | apply Kd.R_alloc | apply Kd.R_drewN | apply Kd.R_drew)); exact Kd.R_mono (Kd.R_far (p := ⟨gb293, 3, none⟩) (Kd.R_far (p := ⟨gb293, 2, none⟩) (Kd.R_far (p := ⟨gb293, 1, none⟩) (Kd.R_far (p := ⟨gb293, 0, none⟩) (Kd.R_types HO_310003.out BK293.out (by decide)) (fun _ hk => hk.2) (.int .i64 t297)) (fun _ hk => hk.2) (.int .i64 t302)) (fun _ hk => hk.2) (.int .i64 t307)) (fun _ hk => hk.2) (.slice Ao51 x310003_1.length co51)) (fun _ hk => trivial), by repeat (first | (with_reducible first | exact HI0.out | apply IsS107.alloc | apply IsS107.drewN | apply IsS107.drew | apply IsS107.set_1 | refine IsS107.far ?_ NB0_293.out _ | refine IsS107.far ?_ NB0_309.out _) | exact HI0.out), by repeat (first | (with_reducible first | exact HB.out | apply below_alloc | apply pw_below_drewN | apply below_drew1 | refine below_set ?_ (IsS107.ge HI0.out) | refine below_set ?_ GE293.out | refine below_set ?_ GE309.out) | exact HB.out), by repeat (first | (with_reducible first | exact HK.out | apply KeepBut.set_ | apply keep_drewN | apply keep_drew | apply keep_alloc | refine keep_far ?_ GW293.out _ | refine keep_far ?_ GW309.out _) | exact HK.out)⟩
def record_Get.l0 : Nat → ByteArray → List (S34) → Int → Int → Option (ByteArray × Int × Int × ByteArray × Bool)
  | 0, _, _, _, _ => none
  | k + 1, x1, x9, x10, x11 => if x11 < x10 then (if 0 ≤ x11 then (if x11 < (x9.length : Int) then (if ((rd_T34 x9 x11).f0).toList = x1.toList then (some ((rd_T34 x9 x11).f0, (rd_T34 x9 x11).f1, (rd_T34 x9 x11).f2, (rd_T34 x9 x11).f3, true)) else (record_Get.l0 k x1 x9 x10 (wrap64 (x11 + 1)))) else (none)) else (none)) else (some ((⟨#[]⟩ : ByteArray), 0, 0, (⟨#[]⟩ : ByteArray), false))
def record_Get.f (k : Nat) (a0_0 : Int) (a0_1 : Int) (a0_2 : Int) (l0_3 : List (S34)) (a1 : ByteArray) : Option (ByteArray × Int × Int × ByteArray × Bool) := record_Get.l0 k a1 l0_3 (l0_3.length : Int) 0
theorem record_Get.mono_l : ∀ k, (∀ y0 y1 y2 y3, LeO (record_Get.l0 k y0 y1 y2 y3) (record_Get.l0 (k + 1) y0 y1 y2 y3))
  | 0 => fun _ _ _ _ r h => by simp [record_Get.l0] at h
  | k + 1 => by
    have ih0 := record_Get.mono_l k
    · intro y0 y1 y2 y3
      unfold record_Get.l0
      repeat' first
      | (with_reducible exact ih0 _ _ _ _)
      | (with_reducible exact LeO.refl _)
      | (with_reducible exact LeO.none _)
      | (with_reducible refine LeO.ite ?_ ?_)
      | (with_reducible refine LeO.bind ?_ (fun _ => ?_))
      | exact ih0 _ _ _ _
      | exact LeO.none _
      | refine LeO.ite ?_ ?_
      | refine LeO.bind ?_ (fun _ => ?_)
theorem record_Get.mono : ∀ a0 a1 a2 a3 a4 k, LeO (record_Get.f k a0 a1 a2 a3 a4) (record_Get.f (k + 1) a0 a1 a2 a3 a4) := by
  intro a0 a1 a2 a3 a4 k
  have ih0 := record_Get.mono_l k
  unfold record_Get.f
  repeat' first
      | (with_reducible exact ih0 _ _ _ _)
      | (with_reducible exact LeO.refl _)
      | (with_reducible exact LeO.none _)
      | (with_reducible refine LeO.ite ?_ ?_)
      | (with_reducible refine LeO.bind ?_ (fun _ => ?_))
      | exact ih0 _ _ _ _
      | exact LeO.none _
      | refine LeO.ite ?_ ?_
      | refine LeO.bind ?_ (fun _ => ?_)
set_option maxHeartbeats 8000000 in
set_option maxRecDepth 100000 in
theorem record_Get.calls (k : Nat) (a0_0 : Int) (a0_1 : Int) (a0_2 : Int) (A0_3 : Option Addr) (c0_3 : Nat) (l0_3 : List (S34)) (a1 : ByteArray) (r1 : ByteArray) (r2 : Int) (r3 : Int) (r4 : ByteArray) (r5 : Bool) (w : World) (hr0_3 : Kd.C k34 w A0_3 l0_3.length l0_3) (hc0_3 : l0_3.length ≤ c0_3) (h : record_Get.f k a0_0 a0_1 a0_2 l0_3 a1 = some (r1, r2, r3, r4, r5)) :
    Calls Tryd.prog 38 #[.agg #[.int .i64 a0_0, .int .i64 a0_1, .int .i64 a0_2, .slice A0_3 l0_3.length c0_3], .string a1] w fun e w' => e = .returned (.tuple #[.agg #[.string r1, .int .i64 r2, .int .i64 r3, .string r4], .bool r5]) ∧ Below w.heap.size w w' := by
  have hu50 := Tryd.underlying50
  have hu34 := Tryd.underlying34
  have HR0_3 := Aside0.mk hr0_3
  have HC0_3 := Aside0.mk hc0_3
  clear hr0_3 hc0_3
  have HB := Aside0.mk (Below.refl w.heap.size w)
  have H : (record_Get.l0 k a1 l0_3 (l0_3.length : Int) 0) = some (r1, r2, r3, r4, r5) := h
  clear h
  have H' := Aside0.mk H
  clear H
  go_enter Tryd.func38, Tryd.ntmps38
  go_wp2_with (first | ((with_reducible refine gate_dst (N := 2) rfl ?_); refine box_event ?hg (N := 2) ?hd (cs := #[.int .i64 a0_0, .int .i64 a0_1, .int .i64 a0_2, .slice A0_3 l0_3.length c0_3]) (t := 50) ?hr ?_; (case hd => rfl); (case hg => rfl); (case hr => first | (go_simp; done) | (go_simp; rfl)); intro gb326 hg w3 hbox hb; have n0_ := Aside0.mk (below_step (by repeat (first | (with_reducible first | exact HB.out | apply below_alloc | apply pw_below_drewN | apply below_drew1) | exact HB.out)) hb); have n1_ := Aside0.mk (hbox); have n2_ := Aside0.mk ((by rw [hg]; exact (below_size (by repeat (first | (with_reducible first | exact HB.out | apply below_alloc | apply pw_below_drewN | apply below_drew1) | exact HB.out))) : w.heap.size ≤ gb326)); have n3_ := Aside0.mk ((by rw [hg]; exact (below_size (by repeat (first | (with_reducible first | exact HB.out | apply below_alloc | apply pw_below_drewN | apply below_drew1) | exact HB.out))) : w.heap.size ≤ gb326)); clear HB; have HB := n0_; have BK326 := n1_; have GW326 := n2_; have GE326 := n3_; clear n0_ n1_ n2_ n3_; clear hb hbox hg) | ((with_reducible refine gate_dst (N := 4) rfl ?_); refine box_event ?hg (N := 4) ?hd (cs := #[.string (⟨#[]⟩ : ByteArray), .int .i64 0, .int .i64 0, .string (⟨#[]⟩ : ByteArray)]) (t := 34) ?hr ?_; (case hd => rfl); (case hg => rfl); (case hr => first | (go_simp; done) | (go_simp; rfl)); intro gb327 hg w4 hbox hb; have n0_ := Aside0.mk (blk_below (g := gb326) (o := .cells #[.int .i64 a0_0, .int .i64 a0_1, .int .i64 a0_2, .slice A0_3 l0_3.length c0_3] 50 (0, 0)) (by (with_reducible repeat (first | refine blk_drewN ?_ _ | refine blk_drew ?_ | refine blk_alloc ?_ _)); exact BK326.out) hb); have n1_ := Aside0.mk (below_step (by repeat (first | (with_reducible first | exact HB.out | apply below_alloc | apply pw_below_drewN | apply below_drew1 | refine below_set ?_ GE326.out) | exact HB.out)) hb); have n2_ := Aside0.mk (hbox); have n3_ := Aside0.mk ((by rw [hg]; exact (below_size (by repeat (first | (with_reducible first | exact HB.out | apply below_alloc | apply pw_below_drewN | apply below_drew1 | refine below_set ?_ GE326.out) | exact HB.out))) : w.heap.size ≤ gb327)); have n4_ := Aside0.mk ((by rw [hg]; exact (below_size (by repeat (first | (with_reducible first | exact HB.out | apply below_alloc | apply pw_below_drewN | apply below_drew1 | refine below_set ?_ GE326.out) | exact HB.out))) : w.heap.size ≤ gb327)); have n5_ := Aside0.mk ((by rw [hg]; exact Nat.ne_of_lt (blk_lt (g := gb326) (o := .cells #[.int .i64 a0_0, .int .i64 a0_1, .int .i64 a0_2, .slice A0_3 l0_3.length c0_3] 50 (0, 0)) (by (with_reducible repeat (first | refine blk_drewN ?_ _ | refine blk_drew ?_ | refine blk_alloc ?_ _)); exact BK326.out)) : gb326 ≠ gb327)); have n6_ := Aside0.mk ((by rw [hg]; exact Nat.ne_of_gt (blk_lt (g := gb326) (o := .cells #[.int .i64 a0_0, .int .i64 a0_1, .int .i64 a0_2, .slice A0_3 l0_3.length c0_3] 50 (0, 0)) (by (with_reducible repeat (first | refine blk_drewN ?_ _ | refine blk_drew ?_ | refine blk_alloc ?_ _)); exact BK326.out)) : gb327 ≠ gb326)); clear BK326; clear HB; have BK326 := n0_; have HB := n1_; have BK327 := n2_; have GW327 := n3_; have GE327 := n4_; have NB326_327 := n5_; have NB327_326 := n6_; clear n0_ n1_ n2_ n3_ n4_ n5_ n6_; clear hb hbox hg; have hnb5 := NB326_327.out; have hnc5 := NB327_326.out; have hcz6_0 : w4.cell? ⟨gb326, 0, none⟩ = some (.int .i64 a0_0) := (blk_cell BK326.out 0).trans rfl; have hcz6_1 : w4.cell? ⟨gb326, 1, none⟩ = some (.int .i64 a0_1) := (blk_cell BK326.out 1).trans rfl; have hcz6_2 : w4.cell? ⟨gb326, 2, none⟩ = some (.int .i64 a0_2) := (blk_cell BK326.out 2).trans rfl; have hcz6_3 : w4.cell? ⟨gb326, 3, none⟩ = some (.slice A0_3 l0_3.length c0_3) := (blk_cell BK326.out 3).trans rfl; have hfz6_0 := blk_frozen BK326.out 0; have hfz6_1 := blk_frozen BK326.out 1; have hfz6_2 := blk_frozen BK326.out 2; have hfz6_3 := blk_frozen BK326.out 3))
  go_loopg [11] k (fun kq v11 w' => ∃ (x11_1 : Int) (x328000_1 : ByteArray) (x328001_1 : Int) (x328002_1 : Int) (x328003_1 : ByteArray), v11 = .int .i64 x11_1 ∧ Aside0 (record_Get.l0 kq a1 l0_3 (l0_3.length : Int) x11_1 = some (r1, r2, r3, r4, r5)) ∧ Aside0 (kq ≤ k) ∧ Aside0 (w'.heap[gb326]? = some (.cells #[.int .i64 a0_0, .int .i64 a0_1, .int .i64 a0_2, (.slice A0_3 l0_3.length c0_3)] 50 (0, 0))) ∧ Aside0 (w'.heap[gb327]? = some (.cells #[.string x328000_1, .int .i64 x328001_1, .int .i64 x328002_1, .string x328003_1] 34 (0, 0))) ∧ Aside0 (Below w.heap.size w w'))
  case atStart => exact ⟨(0), ((⟨#[]⟩ : ByteArray)), (0), (0), ((⟨#[]⟩ : ByteArray)), (by first | rfl | (simp; done) | (simp [*]; done) | (simp only [isEmpty_ne_]; done)), H', ⟨Nat.le_refl _⟩, ⟨by (with_reducible repeat (first | refine blk_drewN ?_ _ | refine blk_drew ?_ | refine blk_alloc ?_ _)); exact BK326.out⟩, ⟨by (with_reducible repeat (first | refine blk_drewN ?_ _ | refine blk_drew ?_ | refine blk_alloc ?_ _)); exact BK327.out⟩, ⟨by repeat (first | (with_reducible first | exact HB.out | apply below_alloc | apply pw_below_drewN | apply below_drew1 | refine below_set ?_ GE326.out | refine below_set ?_ GE327.out) | exact HB.out)⟩⟩
  case round =>
    clear H'
    try clear p2
    try clear c3
    try clear c5
    try clear hcz6_0
    try clear hcz6_1
    try clear hcz6_2
    try clear hcz6_3
    try clear hfz6_0
    try clear hfz6_1
    try clear hfz6_2
    try clear hfz6_3
    obtain ⟨x11_1, x328000_1, x328001_1, x328002_1, x328003_1, rfl, HA, HK1, BK326, BK327, HB⟩ := hrel
    cases gk with
    | zero => exact absurd HA.out (by simp [record_Get.l0])
    | succ k1 =>
      have H := HA.out
      clear HA
      simp only [record_Get.l0] at H
      by_cases c7 : x11_1 < (l0_3.length : Int)
      · rw [if_pos c7] at H
        have c7b0 : decide (x11_1 < (l0_3.length : Int)) = true := decide_eq_true c7
        clear c7
        by_cases c8 : 0 ≤ x11_1
        · rw [if_pos c8] at H
          have c8b0 : decide (0 ≤ x11_1) = true := decide_eq_true c8
          clear c8
          by_cases c9 : x11_1 < (l0_3.length : Int)
          · rw [if_pos c9] at H
            have c9b0 : decide (x11_1 < (l0_3.length : Int)) = true := decide_eq_true c9
            clear c9
            by_cases c10 : ((rd_T34 l0_3 x11_1).f0).toList = a1.toList
            · rw [if_pos c10] at H
              have c10b0 : (((rd_T34 l0_3 x11_1).f0).toList == a1.toList) = true := beq_iff_eq.mpr c10
              have c10b1 : (((rd_T34 l0_3 x11_1).f0).toList != a1.toList) = false := bne_eq_false_iff_eq.mpr c10
              clear c10
              simp only [Option.some.injEq, Prod.mk.injEq] at H
              obtain ⟨rfl, rfl, rfl, rfl, rfl⟩ := H
              have p328 : 0 ≤ (x11_1 : Int) := of_decide_eq_true (by first | (with_reducible assumption) | assumption)
              have q328 : x11_1 < (l0_3.length : Int) := of_decide_eq_true (by first | (with_reducible assumption) | assumption)
              obtain ⟨ad328, e328, hx328_0, hx328_1, hx328_2, hx328_3⟩ := at_T34 HR0_3.out x11_1 p328 q328
              cases e328
              replace hx328_0 := (HB.out.cell (World.block_lt_of_cell? w _ hx328_0)).trans hx328_0
              replace hx328_1 := (HB.out.cell (World.block_lt_of_cell? w _ hx328_1)).trans hx328_1
              replace hx328_2 := (HB.out.cell (World.block_lt_of_cell? w _ hx328_2)).trans hx328_2
              replace hx328_3 := (HB.out.cell (World.block_lt_of_cell? w _ hx328_3)).trans hx328_3
              replace p328 := eq_true p328
              replace q328 := eq_true q328
              go_wp2_with (first | ((with_reducible refine gate_dst (N := 7) rfl ?_); refine box_event ?hg (N := 7) ?hd (cs := #[.string (⟨#[]⟩ : ByteArray), .int .i64 0, .int .i64 0, .string (⟨#[]⟩ : ByteArray)]) (t := 34) ?hr ?_; (case hd => rfl); (case hg => rfl); (case hr => first | (go_simp; done) | (go_simp; rfl)); intro gb329 hg w11 hbox hb; have n0_ := Aside0.mk (blk_below (g := gb326) (o := .cells #[.int .i64 a0_0, .int .i64 a0_1, .int .i64 a0_2, .slice (some ad328) l0_3.length c0_3] 50 (0, 0)) (by (with_reducible repeat (first | refine blk_drewN ?_ _ | refine blk_drew ?_ | refine blk_alloc ?_ _)); exact BK326.out) hb); have n1_ := Aside0.mk (blk_below (g := gb327) (o := .cells #[.string x328000_1, .int .i64 x328001_1, .int .i64 x328002_1, .string x328003_1] 34 (0, 0)) (by (with_reducible repeat (first | refine blk_drewN ?_ _ | refine blk_drew ?_ | refine blk_alloc ?_ _)); exact BK327.out) hb); have n2_ := Aside0.mk (below_step (by repeat (first | (with_reducible first | exact HB.out | apply below_alloc | apply pw_below_drewN | apply below_drew1 | refine below_set ?_ GE326.out | refine below_set ?_ GE327.out) | exact HB.out)) hb); have n3_ := Aside0.mk (hbox); have n4_ := Aside0.mk ((by rw [hg]; exact (below_size (by repeat (first | (with_reducible first | exact HB.out | apply below_alloc | apply pw_below_drewN | apply below_drew1 | refine below_set ?_ GE326.out | refine below_set ?_ GE327.out) | exact HB.out))) : w.heap.size ≤ gb329)); have n5_ := Aside0.mk ((by rw [hg]; exact (below_size (by repeat (first | (with_reducible first | exact HB.out | apply below_alloc | apply pw_below_drewN | apply below_drew1 | refine below_set ?_ GE326.out | refine below_set ?_ GE327.out) | exact HB.out))) : w.heap.size ≤ gb329)); have n6_ := Aside0.mk ((by rw [hg]; exact Nat.ne_of_lt (blk_lt (g := gb326) (o := .cells #[.int .i64 a0_0, .int .i64 a0_1, .int .i64 a0_2, .slice (some ad328) l0_3.length c0_3] 50 (0, 0)) (by (with_reducible repeat (first | refine blk_drewN ?_ _ | refine blk_drew ?_ | refine blk_alloc ?_ _)); exact BK326.out)) : gb326 ≠ gb329)); have n7_ := Aside0.mk ((by rw [hg]; exact Nat.ne_of_gt (blk_lt (g := gb326) (o := .cells #[.int .i64 a0_0, .int .i64 a0_1, .int .i64 a0_2, .slice (some ad328) l0_3.length c0_3] 50 (0, 0)) (by (with_reducible repeat (first | refine blk_drewN ?_ _ | refine blk_drew ?_ | refine blk_alloc ?_ _)); exact BK326.out)) : gb329 ≠ gb326)); have n8_ := Aside0.mk ((by rw [hg]; exact Nat.ne_of_lt (blk_lt (g := gb327) (o := .cells #[.string x328000_1, .int .i64 x328001_1, .int .i64 x328002_1, .string x328003_1] 34 (0, 0)) (by (with_reducible repeat (first | refine blk_drewN ?_ _ | refine blk_drew ?_ | refine blk_alloc ?_ _)); exact BK327.out)) : gb327 ≠ gb329)); have n9_ := Aside0.mk ((by rw [hg]; exact Nat.ne_of_gt (blk_lt (g := gb327) (o := .cells #[.string x328000_1, .int .i64 x328001_1, .int .i64 x328002_1, .string x328003_1] 34 (0, 0)) (by (with_reducible repeat (first | refine blk_drewN ?_ _ | refine blk_drew ?_ | refine blk_alloc ?_ _)); exact BK327.out)) : gb329 ≠ gb327)); clear BK326; clear BK327; clear HB; have BK326 := n0_; have BK327 := n1_; have HB := n2_; have BK329 := n3_; have GW329 := n4_; have GE329 := n5_; have NB326_329 := n6_; have NB329_326 := n7_; have NB327_329 := n8_; have NB329_327 := n9_; clear n0_ n1_ n2_ n3_ n4_ n5_ n6_ n7_ n8_ n9_; clear hb hbox hg; have hnb12 := NB329_326.out; have hnc12 := NB326_329.out; have hnb13 := NB329_327.out; have hnc13 := NB327_329.out; have hcz14_0 : w11.cell? ⟨gb329, 0, none⟩ = some (.string (⟨#[]⟩ : ByteArray)) := (blk_cell BK329.out 0).trans rfl; have hcz14_1 : w11.cell? ⟨gb329, 1, none⟩ = some (.int .i64 0) := (blk_cell BK329.out 1).trans rfl; have hcz14_2 : w11.cell? ⟨gb329, 2, none⟩ = some (.int .i64 0) := (blk_cell BK329.out 2).trans rfl; have hcz14_3 : w11.cell? ⟨gb329, 3, none⟩ = some (.string (⟨#[]⟩ : ByteArray)) := (blk_cell BK329.out 3).trans rfl; have hfz14_0 := blk_frozen BK329.out 0; have hfz14_1 := blk_frozen BK329.out 1; have hfz14_2 := blk_frozen BK329.out 2; have hfz14_3 := blk_frozen BK329.out 3; have hnb15 := NB327_326.out; have hnc15 := NB326_327.out; have hcz16_0 : w11.cell? ⟨gb327, 0, none⟩ = some (.string x328000_1) := (blk_cell BK327.out 0).trans rfl; have hcz16_1 : w11.cell? ⟨gb327, 1, none⟩ = some (.int .i64 x328001_1) := (blk_cell BK327.out 1).trans rfl; have hcz16_2 : w11.cell? ⟨gb327, 2, none⟩ = some (.int .i64 x328002_1) := (blk_cell BK327.out 2).trans rfl; have hcz16_3 : w11.cell? ⟨gb327, 3, none⟩ = some (.string x328003_1) := (blk_cell BK327.out 3).trans rfl; have hfz16_0 := blk_frozen BK327.out 0; have hfz16_1 := blk_frozen BK327.out 1; have hfz16_2 := blk_frozen BK327.out 2; have hfz16_3 := blk_frozen BK327.out 3))
              refine bodyPost_ret (results_ct rfl _ _ gb327 34 #[.string ((rd_T34 l0_3 x11_1).f0), .int .i64 ((rd_T34 l0_3 x11_1).f1), .int .i64 ((rd_T34 l0_3 x11_1).f2), .string ((rd_T34 l0_3 x11_1).f3)] (0, 0) _ rfl (by (with_reducible repeat (first | refine blk_drewN ?_ _ | refine blk_drew ?_ | refine blk_alloc ?_ _)); refine blk_put (cs := #[.string ((rd_T34 l0_3 x11_1).f0), .int .i64 ((rd_T34 l0_3 x11_1).f1), .int .i64 ((rd_T34 l0_3 x11_1).f2), .string x328003_1]) ?_ 3 _ rfl; (with_reducible repeat (first | refine blk_drewN ?_ _ | refine blk_drew ?_ | refine blk_alloc ?_ _)); refine blk_put (cs := #[.string ((rd_T34 l0_3 x11_1).f0), .int .i64 ((rd_T34 l0_3 x11_1).f1), .int .i64 x328002_1, .string x328003_1]) ?_ 2 _ rfl; (with_reducible repeat (first | refine blk_drewN ?_ _ | refine blk_drew ?_ | refine blk_alloc ?_ _)); refine blk_put (cs := #[.string ((rd_T34 l0_3 x11_1).f0), .int .i64 x328001_1, .int .i64 x328002_1, .string x328003_1]) ?_ 1 _ rfl; (with_reducible repeat (first | refine blk_drewN ?_ _ | refine blk_drew ?_ | refine blk_alloc ?_ _)); refine blk_put (cs := #[.string x328000_1, .int .i64 x328001_1, .int .i64 x328002_1, .string x328003_1]) ?_ 0 _ rfl; (with_reducible repeat (first | refine blk_drewN ?_ _ | refine blk_drew ?_ | refine blk_alloc ?_ _)); refine blk_far ?_ NB327_329.out _; (with_reducible repeat (first | refine blk_drewN ?_ _ | refine blk_drew ?_ | refine blk_alloc ?_ _)); refine blk_far ?_ NB327_329.out _; (with_reducible repeat (first | refine blk_drewN ?_ _ | refine blk_drew ?_ | refine blk_alloc ?_ _)); refine blk_far ?_ NB327_329.out _; (with_reducible repeat (first | refine blk_drewN ?_ _ | refine blk_drew ?_ | refine blk_alloc ?_ _)); refine blk_far ?_ NB327_329.out _; (with_reducible repeat (first | refine blk_drewN ?_ _ | refine blk_drew ?_ | refine blk_alloc ?_ _)); exact BK327.out) Tryd.underlying34 rfl (by kernel_rfl)) rfl ?_
              exact ⟨by first | rfl | (simp [errW_none, errW_some] <;> rfl) | (simp [*, errW_none, errW_some] <;> rfl) | (simp only [isEmpty_ne_, isEmpty_eq_]; rfl) | (simp [*, isEmpty_ne_, isEmpty_eq_]; done), by repeat (first | (with_reducible first | exact HB.out | apply below_alloc | apply pw_below_drewN | apply below_drew1 | refine below_set ?_ GE326.out | refine below_set ?_ GE327.out | refine below_set ?_ GE329.out) | exact HB.out)⟩
            · rw [if_neg c10] at H
              have c10b0 : (((rd_T34 l0_3 x11_1).f0).toList == a1.toList) = false := beq_eq_false_iff_ne.mpr c10
              have c10b1 : (((rd_T34 l0_3 x11_1).f0).toList != a1.toList) = true := bne_iff_ne.mpr c10
              have H' := Aside0.mk H
              clear H
              have p328 : 0 ≤ (x11_1 : Int) := of_decide_eq_true (by first | (with_reducible assumption) | assumption)
              have q328 : x11_1 < (l0_3.length : Int) := of_decide_eq_true (by first | (with_reducible assumption) | assumption)
              obtain ⟨ad328, e328, hx328_0, hx328_1, hx328_2, hx328_3⟩ := at_T34 HR0_3.out x11_1 p328 q328
              cases e328
              replace hx328_0 := (HB.out.cell (World.block_lt_of_cell? w _ hx328_0)).trans hx328_0
              replace hx328_1 := (HB.out.cell (World.block_lt_of_cell? w _ hx328_1)).trans hx328_1
              replace hx328_2 := (HB.out.cell (World.block_lt_of_cell? w _ hx328_2)).trans hx328_2
              replace hx328_3 := (HB.out.cell (World.block_lt_of_cell? w _ hx328_3)).trans hx328_3
              replace p328 := eq_true p328
              replace q328 := eq_true q328
              go_wp2_with (first | ((with_reducible refine gate_dst (N := 7) rfl ?_); refine box_event ?hg (N := 7) ?hd (cs := #[.string (⟨#[]⟩ : ByteArray), .int .i64 0, .int .i64 0, .string (⟨#[]⟩ : ByteArray)]) (t := 34) ?hr ?_; (case hd => rfl); (case hg => rfl); (case hr => first | (go_simp; done) | (go_simp; rfl)); intro gb329 hg w17 hbox hb; have n0_ := Aside0.mk (blk_below (g := gb326) (o := .cells #[.int .i64 a0_0, .int .i64 a0_1, .int .i64 a0_2, .slice (some ad328) l0_3.length c0_3] 50 (0, 0)) (by (with_reducible repeat (first | refine blk_drewN ?_ _ | refine blk_drew ?_ | refine blk_alloc ?_ _)); exact BK326.out) hb); have n1_ := Aside0.mk (blk_below (g := gb327) (o := .cells #[.string x328000_1, .int .i64 x328001_1, .int .i64 x328002_1, .string x328003_1] 34 (0, 0)) (by (with_reducible repeat (first | refine blk_drewN ?_ _ | refine blk_drew ?_ | refine blk_alloc ?_ _)); exact BK327.out) hb); have n2_ := Aside0.mk (below_step (by repeat (first | (with_reducible first | exact HB.out | apply below_alloc | apply pw_below_drewN | apply below_drew1 | refine below_set ?_ GE326.out | refine below_set ?_ GE327.out) | exact HB.out)) hb); have n3_ := Aside0.mk (hbox); have n4_ := Aside0.mk ((by rw [hg]; exact (below_size (by repeat (first | (with_reducible first | exact HB.out | apply below_alloc | apply pw_below_drewN | apply below_drew1 | refine below_set ?_ GE326.out | refine below_set ?_ GE327.out) | exact HB.out))) : w.heap.size ≤ gb329)); have n5_ := Aside0.mk ((by rw [hg]; exact (below_size (by repeat (first | (with_reducible first | exact HB.out | apply below_alloc | apply pw_below_drewN | apply below_drew1 | refine below_set ?_ GE326.out | refine below_set ?_ GE327.out) | exact HB.out))) : w.heap.size ≤ gb329)); have n6_ := Aside0.mk ((by rw [hg]; exact Nat.ne_of_lt (blk_lt (g := gb326) (o := .cells #[.int .i64 a0_0, .int .i64 a0_1, .int .i64 a0_2, .slice (some ad328) l0_3.length c0_3] 50 (0, 0)) (by (with_reducible repeat (first | refine blk_drewN ?_ _ | refine blk_drew ?_ | refine blk_alloc ?_ _)); exact BK326.out)) : gb326 ≠ gb329)); have n7_ := Aside0.mk ((by rw [hg]; exact Nat.ne_of_gt (blk_lt (g := gb326) (o := .cells #[.int .i64 a0_0, .int .i64 a0_1, .int .i64 a0_2, .slice (some ad328) l0_3.length c0_3] 50 (0, 0)) (by (with_reducible repeat (first | refine blk_drewN ?_ _ | refine blk_drew ?_ | refine blk_alloc ?_ _)); exact BK326.out)) : gb329 ≠ gb326)); have n8_ := Aside0.mk ((by rw [hg]; exact Nat.ne_of_lt (blk_lt (g := gb327) (o := .cells #[.string x328000_1, .int .i64 x328001_1, .int .i64 x328002_1, .string x328003_1] 34 (0, 0)) (by (with_reducible repeat (first | refine blk_drewN ?_ _ | refine blk_drew ?_ | refine blk_alloc ?_ _)); exact BK327.out)) : gb327 ≠ gb329)); have n9_ := Aside0.mk ((by rw [hg]; exact Nat.ne_of_gt (blk_lt (g := gb327) (o := .cells #[.string x328000_1, .int .i64 x328001_1, .int .i64 x328002_1, .string x328003_1] 34 (0, 0)) (by (with_reducible repeat (first | refine blk_drewN ?_ _ | refine blk_drew ?_ | refine blk_alloc ?_ _)); exact BK327.out)) : gb329 ≠ gb327)); clear BK326; clear BK327; clear HB; have BK326 := n0_; have BK327 := n1_; have HB := n2_; have BK329 := n3_; have GW329 := n4_; have GE329 := n5_; have NB326_329 := n6_; have NB329_326 := n7_; have NB327_329 := n8_; have NB329_327 := n9_; clear n0_ n1_ n2_ n3_ n4_ n5_ n6_ n7_ n8_ n9_; clear hb hbox hg; have hnb18 := NB329_326.out; have hnc18 := NB326_329.out; have hnb19 := NB329_327.out; have hnc19 := NB327_329.out; have hcz20_0 : w17.cell? ⟨gb329, 0, none⟩ = some (.string (⟨#[]⟩ : ByteArray)) := (blk_cell BK329.out 0).trans rfl; have hcz20_1 : w17.cell? ⟨gb329, 1, none⟩ = some (.int .i64 0) := (blk_cell BK329.out 1).trans rfl; have hcz20_2 : w17.cell? ⟨gb329, 2, none⟩ = some (.int .i64 0) := (blk_cell BK329.out 2).trans rfl; have hcz20_3 : w17.cell? ⟨gb329, 3, none⟩ = some (.string (⟨#[]⟩ : ByteArray)) := (blk_cell BK329.out 3).trans rfl; have hfz20_0 := blk_frozen BK329.out 0; have hfz20_1 := blk_frozen BK329.out 1; have hfz20_2 := blk_frozen BK329.out 2; have hfz20_3 := blk_frozen BK329.out 3))
              go_roundg k1
              case measure => have := HK1.out; omega
              case rel => exact ⟨(wrap64 (x11_1 + 1)), (x328000_1), (x328001_1), (x328002_1), (x328003_1), (by first | rfl | (simp; done) | (simp [*]; done) | (simp only [isEmpty_ne_]; done)), H', ⟨by have := HK1.out; omega⟩, ⟨by (with_reducible repeat (first | refine blk_drewN ?_ _ | refine blk_drew ?_ | refine blk_alloc ?_ _)); refine blk_far ?_ NB326_329.out _; (with_reducible repeat (first | refine blk_drewN ?_ _ | refine blk_drew ?_ | refine blk_alloc ?_ _)); refine blk_far ?_ NB326_329.out _; (with_reducible repeat (first | refine blk_drewN ?_ _ | refine blk_drew ?_ | refine blk_alloc ?_ _)); refine blk_far ?_ NB326_329.out _; (with_reducible repeat (first | refine blk_drewN ?_ _ | refine blk_drew ?_ | refine blk_alloc ?_ _)); refine blk_far ?_ NB326_329.out _; (with_reducible repeat (first | refine blk_drewN ?_ _ | refine blk_drew ?_ | refine blk_alloc ?_ _)); exact BK326.out⟩, ⟨by (with_reducible repeat (first | refine blk_drewN ?_ _ | refine blk_drew ?_ | refine blk_alloc ?_ _)); refine blk_far ?_ NB327_329.out _; (with_reducible repeat (first | refine blk_drewN ?_ _ | refine blk_drew ?_ | refine blk_alloc ?_ _)); refine blk_far ?_ NB327_329.out _; (with_reducible repeat (first | refine blk_drewN ?_ _ | refine blk_drew ?_ | refine blk_alloc ?_ _)); refine blk_far ?_ NB327_329.out _; (with_reducible repeat (first | refine blk_drewN ?_ _ | refine blk_drew ?_ | refine blk_alloc ?_ _)); refine blk_far ?_ NB327_329.out _; (with_reducible repeat (first | refine blk_drewN ?_ _ | refine blk_drew ?_ | refine blk_alloc ?_ _)); exact BK327.out⟩, ⟨by repeat (first | (with_reducible first | exact HB.out | apply below_alloc | apply pw_below_drewN | apply below_drew1 | refine below_set ?_ GE326.out | refine below_set ?_ GE327.out | refine below_set ?_ GE329.out) | exact HB.out)⟩⟩
          · rw [if_neg c9] at H
            exact absurd H (by simp)
        · rw [if_neg c8] at H
          exact absurd H (by simp)
      · rw [if_neg c7] at H
        have c7b0 : decide (x11_1 < (l0_3.length : Int)) = false := decide_eq_false c7
        clear c7
        simp only [Option.some.injEq, Prod.mk.injEq] at H
        obtain ⟨rfl, rfl, rfl, rfl, rfl⟩ := H
        have hnb21 := NB327_326.out
        have hnc21 := NB326_327.out
        have hcz22_0 : wr.cell? ⟨gb327, 0, none⟩ = some (.string x328000_1) := (blk_cell BK327.out 0).trans rfl
        have hcz22_1 : wr.cell? ⟨gb327, 1, none⟩ = some (.int .i64 x328001_1) := (blk_cell BK327.out 1).trans rfl
        have hcz22_2 : wr.cell? ⟨gb327, 2, none⟩ = some (.int .i64 x328002_1) := (blk_cell BK327.out 2).trans rfl
        have hcz22_3 : wr.cell? ⟨gb327, 3, none⟩ = some (.string x328003_1) := (blk_cell BK327.out 3).trans rfl
        have hfz22_0 := blk_frozen BK327.out 0
        have hfz22_1 := blk_frozen BK327.out 1
        have hfz22_2 := blk_frozen BK327.out 2
        have hfz22_3 := blk_frozen BK327.out 3
        go_wp2
        refine bodyPost_ret (results_ct rfl _ _ gb327 34 #[.string (⟨#[]⟩ : ByteArray), .int .i64 0, .int .i64 0, .string (⟨#[]⟩ : ByteArray)] (0, 0) _ rfl (by (with_reducible repeat (first | refine blk_drewN ?_ _ | refine blk_drew ?_ | refine blk_alloc ?_ _)); refine blk_put (cs := #[.string (⟨#[]⟩ : ByteArray), .int .i64 0, .int .i64 0, .string x328003_1]) ?_ 3 _ rfl; (with_reducible repeat (first | refine blk_drewN ?_ _ | refine blk_drew ?_ | refine blk_alloc ?_ _)); refine blk_put (cs := #[.string (⟨#[]⟩ : ByteArray), .int .i64 0, .int .i64 x328002_1, .string x328003_1]) ?_ 2 _ rfl; (with_reducible repeat (first | refine blk_drewN ?_ _ | refine blk_drew ?_ | refine blk_alloc ?_ _)); refine blk_put (cs := #[.string (⟨#[]⟩ : ByteArray), .int .i64 x328001_1, .int .i64 x328002_1, .string x328003_1]) ?_ 1 _ rfl; (with_reducible repeat (first | refine blk_drewN ?_ _ | refine blk_drew ?_ | refine blk_alloc ?_ _)); refine blk_put (cs := #[.string x328000_1, .int .i64 x328001_1, .int .i64 x328002_1, .string x328003_1]) ?_ 0 _ rfl; (with_reducible repeat (first | refine blk_drewN ?_ _ | refine blk_drew ?_ | refine blk_alloc ?_ _)); exact BK327.out) Tryd.underlying34 rfl (by kernel_rfl)) rfl ?_
        exact ⟨by first | rfl | (simp [errW_none, errW_some] <;> rfl) | (simp [*, errW_none, errW_some] <;> rfl) | (simp only [isEmpty_ne_, isEmpty_eq_]; rfl) | (simp [*, isEmpty_ne_, isEmpty_eq_]; done), by repeat (first | (with_reducible first | exact HB.out | apply below_alloc | apply pw_below_drewN | apply below_drew1 | refine below_set ?_ GE326.out | refine below_set ?_ GE327.out) | exact HB.out)⟩
def kauditref03_Get.l0 : Nat → ByteArray → Int → Int → Int → Int → List (S34) → Option (ByteArray × Int × Int × ByteArray × Bool)
  | 0, _, _, _, _, _, _ => none
  | k + 1, x1, x6, x331000, x331001, x331002, x331003 => if x6 < (x331003.length : Int) then (if 0 ≤ x6 then (if ((rd_T34 x331003 x6).f0).toList = x1.toList then (some ((rd_T34 x331003 x6).f0, (rd_T34 x331003 x6).f1, (rd_T34 x331003 x6).f2, (rd_T34 x331003 x6).f3, true)) else (kauditref03_Get.l0 k x1 (wrap64 (x6 + 1)) x331000 x331001 x331002 x331003)) else (none)) else (some ((⟨#[]⟩ : ByteArray), 0, 0, (⟨#[]⟩ : ByteArray), false))
def kauditref03_Get.f (k : Nat) (a0_0 : Int) (a0_1 : Int) (a0_2 : Int) (l0_3 : List (S34)) (a1 : ByteArray) : Option (ByteArray × Int × Int × ByteArray × Bool) := kauditref03_Get.l0 k a1 0 a0_0 a0_1 a0_2 l0_3
theorem kauditref03_Get.mono_l : ∀ k, (∀ y0 y1 y2 y3 y4 y5, LeO (kauditref03_Get.l0 k y0 y1 y2 y3 y4 y5) (kauditref03_Get.l0 (k + 1) y0 y1 y2 y3 y4 y5))
  | 0 => fun _ _ _ _ _ _ r h => by simp [kauditref03_Get.l0] at h
  | k + 1 => by
    have ih0 := kauditref03_Get.mono_l k
    · intro y0 y1 y2 y3 y4 y5
      unfold kauditref03_Get.l0
      repeat' first
      | (with_reducible exact ih0 _ _ _ _ _ _)
      | (with_reducible exact LeO.refl _)
      | (with_reducible exact LeO.none _)
      | (with_reducible refine LeO.ite ?_ ?_)
      | (with_reducible refine LeO.bind ?_ (fun _ => ?_))
      | exact ih0 _ _ _ _ _ _
      | exact LeO.none _
      | refine LeO.ite ?_ ?_
      | refine LeO.bind ?_ (fun _ => ?_)
theorem kauditref03_Get.mono : ∀ a0 a1 a2 a3 a4 k, LeO (kauditref03_Get.f k a0 a1 a2 a3 a4) (kauditref03_Get.f (k + 1) a0 a1 a2 a3 a4) := by
  intro a0 a1 a2 a3 a4 k
  have ih0 := kauditref03_Get.mono_l k
  unfold kauditref03_Get.f
  repeat' first
      | (with_reducible exact ih0 _ _ _ _ _ _)
      | (with_reducible exact LeO.refl _)
      | (with_reducible exact LeO.none _)
      | (with_reducible refine LeO.ite ?_ ?_)
      | (with_reducible refine LeO.bind ?_ (fun _ => ?_))
      | exact ih0 _ _ _ _ _ _
      | exact LeO.none _
      | refine LeO.ite ?_ ?_
      | refine LeO.bind ?_ (fun _ => ?_)
set_option maxHeartbeats 8000000 in
set_option maxRecDepth 100000 in
theorem kauditref03_Get.calls (k : Nat) (a0_0 : Int) (a0_1 : Int) (a0_2 : Int) (A0_3 : Option Addr) (c0_3 : Nat) (l0_3 : List (S34)) (a1 : ByteArray) (r1 : ByteArray) (r2 : Int) (r3 : Int) (r4 : ByteArray) (r5 : Bool) (w : World) (hr0_3 : Kd.C k34 w A0_3 l0_3.length l0_3) (hc0_3 : l0_3.length ≤ c0_3) (h : kauditref03_Get.f k a0_0 a0_1 a0_2 l0_3 a1 = some (r1, r2, r3, r4, r5)) :
    Calls Tryd.prog 39 #[.agg #[.int .i64 a0_0, .int .i64 a0_1, .int .i64 a0_2, .slice A0_3 l0_3.length c0_3], .string a1] w fun e w' => e = .returned (.tuple #[.agg #[.string r1, .int .i64 r2, .int .i64 r3, .string r4], .bool r5]) ∧ Below w.heap.size w w' := by
  have hu50 := Tryd.underlying50
  have hu34 := Tryd.underlying34
  have HR0_3 := Aside0.mk hr0_3
  have HC0_3 := Aside0.mk hc0_3
  clear hr0_3 hc0_3
  have HB := Aside0.mk (Below.refl w.heap.size w)
  have H : (kauditref03_Get.l0 k a1 0 a0_0 a0_1 a0_2 l0_3) = some (r1, r2, r3, r4, r5) := h
  clear h
  have H' := Aside0.mk H
  clear H
  go_enter Tryd.func39, Tryd.ntmps39
  go_wp2_with (first | ((with_reducible refine gate_dst (N := 2) rfl ?_); refine box_event ?hg (N := 2) ?hd (cs := #[.int .i64 a0_0, .int .i64 a0_1, .int .i64 a0_2, .slice A0_3 l0_3.length c0_3]) (t := 50) ?hr ?_; (case hd => rfl); (case hg => rfl); (case hr => first | (go_simp; done) | (go_simp; rfl)); intro gb330 hg w3 hbox hb; have n0_ := Aside0.mk (below_step (by repeat (first | (with_reducible first | exact HB.out | apply below_alloc | apply pw_below_drewN | apply below_drew1) | exact HB.out)) hb); have n1_ := Aside0.mk (hbox); have n2_ := Aside0.mk ((by rw [hg]; exact (below_size (by repeat (first | (with_reducible first | exact HB.out | apply below_alloc | apply pw_below_drewN | apply below_drew1) | exact HB.out))) : w.heap.size ≤ gb330)); have n3_ := Aside0.mk ((by rw [hg]; exact (below_size (by repeat (first | (with_reducible first | exact HB.out | apply below_alloc | apply pw_below_drewN | apply below_drew1) | exact HB.out))) : w.heap.size ≤ gb330)); clear HB; have HB := n0_; have BK330 := n1_; have GW330 := n2_; have GE330 := n3_; clear n0_ n1_ n2_ n3_; clear hb hbox hg) | ((with_reducible refine gate_dst (N := 4) rfl ?_); refine box_event ?hg (N := 4) ?hd (cs := #[.string (⟨#[]⟩ : ByteArray), .int .i64 0, .int .i64 0, .string (⟨#[]⟩ : ByteArray)]) (t := 34) ?hr ?_; (case hd => rfl); (case hg => rfl); (case hr => first | (go_simp; done) | (go_simp; rfl)); intro gb331 hg w4 hbox hb; have n0_ := Aside0.mk (blk_below (g := gb330) (o := .cells #[.int .i64 a0_0, .int .i64 a0_1, .int .i64 a0_2, .slice A0_3 l0_3.length c0_3] 50 (0, 0)) (by (with_reducible repeat (first | refine blk_drewN ?_ _ | refine blk_drew ?_ | refine blk_alloc ?_ _)); exact BK330.out) hb); have n1_ := Aside0.mk (below_step (by repeat (first | (with_reducible first | exact HB.out | apply below_alloc | apply pw_below_drewN | apply below_drew1 | refine below_set ?_ GE330.out) | exact HB.out)) hb); have n2_ := Aside0.mk (hbox); have n3_ := Aside0.mk ((by rw [hg]; exact (below_size (by repeat (first | (with_reducible first | exact HB.out | apply below_alloc | apply pw_below_drewN | apply below_drew1 | refine below_set ?_ GE330.out) | exact HB.out))) : w.heap.size ≤ gb331)); have n4_ := Aside0.mk ((by rw [hg]; exact (below_size (by repeat (first | (with_reducible first | exact HB.out | apply below_alloc | apply pw_below_drewN | apply below_drew1 | refine below_set ?_ GE330.out) | exact HB.out))) : w.heap.size ≤ gb331)); have n5_ := Aside0.mk ((by rw [hg]; exact Nat.ne_of_lt (blk_lt (g := gb330) (o := .cells #[.int .i64 a0_0, .int .i64 a0_1, .int .i64 a0_2, .slice A0_3 l0_3.length c0_3] 50 (0, 0)) (by (with_reducible repeat (first | refine blk_drewN ?_ _ | refine blk_drew ?_ | refine blk_alloc ?_ _)); exact BK330.out)) : gb330 ≠ gb331)); have n6_ := Aside0.mk ((by rw [hg]; exact Nat.ne_of_gt (blk_lt (g := gb330) (o := .cells #[.int .i64 a0_0, .int .i64 a0_1, .int .i64 a0_2, .slice A0_3 l0_3.length c0_3] 50 (0, 0)) (by (with_reducible repeat (first | refine blk_drewN ?_ _ | refine blk_drew ?_ | refine blk_alloc ?_ _)); exact BK330.out)) : gb331 ≠ gb330)); clear BK330; clear HB; have BK330 := n0_; have HB := n1_; have BK331 := n2_; have GW331 := n3_; have GE331 := n4_; have NB330_331 := n5_; have NB331_330 := n6_; clear n0_ n1_ n2_ n3_ n4_ n5_ n6_; clear hb hbox hg))
  go_loopg [6] k (fun kq v6 w' => ∃ (x6_1 : Int) (x332000_1 : ByteArray) (x332001_1 : Int) (x332002_1 : Int) (x332003_1 : ByteArray), v6 = .int .i64 x6_1 ∧ Aside0 (kauditref03_Get.l0 kq a1 x6_1 a0_0 a0_1 a0_2 l0_3 = some (r1, r2, r3, r4, r5)) ∧ Aside0 (kq ≤ k) ∧ Aside0 (w'.heap[gb330]? = some (.cells #[.int .i64 a0_0, .int .i64 a0_1, .int .i64 a0_2, (.slice A0_3 l0_3.length c0_3)] 50 (0, 0))) ∧ Aside0 (w'.heap[gb331]? = some (.cells #[.string x332000_1, .int .i64 x332001_1, .int .i64 x332002_1, .string x332003_1] 34 (0, 0))) ∧ Aside0 (Below w.heap.size w w'))
  case atStart => exact ⟨(0), ((⟨#[]⟩ : ByteArray)), (0), (0), ((⟨#[]⟩ : ByteArray)), (by first | rfl | (simp; done) | (simp [*]; done) | (simp only [isEmpty_ne_]; done)), H', ⟨Nat.le_refl _⟩, ⟨by (with_reducible repeat (first | refine blk_drewN ?_ _ | refine blk_drew ?_ | refine blk_alloc ?_ _)); exact BK330.out⟩, ⟨by (with_reducible repeat (first | refine blk_drewN ?_ _ | refine blk_drew ?_ | refine blk_alloc ?_ _)); exact BK331.out⟩, ⟨by repeat (first | (with_reducible first | exact HB.out | apply below_alloc | apply pw_below_drewN | apply below_drew1 | refine below_set ?_ GE330.out | refine below_set ?_ GE331.out) | exact HB.out)⟩⟩
  case round =>
    clear H'
    try clear p2
    try clear c3
    obtain ⟨x6_1, x332000_1, x332001_1, x332002_1, x332003_1, rfl, HA, HK1, BK330, BK331, HB⟩ := hrel
    cases gk with
    | zero => exact absurd HA.out (by simp [kauditref03_Get.l0])
    | succ k1 =>
      have H := HA.out
      clear HA
      simp only [kauditref03_Get.l0] at H
      by_cases c5 : x6_1 < (l0_3.length : Int)
      · rw [if_pos c5] at H
        have c5b0 : decide (x6_1 < (l0_3.length : Int)) = true := decide_eq_true c5
        clear c5
        by_cases c6 : 0 ≤ x6_1
        · rw [if_pos c6] at H
          have c6b0 : decide (0 ≤ x6_1) = true := decide_eq_true c6
          clear c6
          by_cases c7 : ((rd_T34 l0_3 x6_1).f0).toList = a1.toList
          · rw [if_pos c7] at H
            have c7b0 : (((rd_T34 l0_3 x6_1).f0).toList == a1.toList) = true := beq_iff_eq.mpr c7
            have c7b1 : (((rd_T34 l0_3 x6_1).f0).toList != a1.toList) = false := bne_eq_false_iff_eq.mpr c7
            clear c7
            simp only [Option.some.injEq, Prod.mk.injEq] at H
            obtain ⟨rfl, rfl, rfl, rfl, rfl⟩ := H
            have hnb8 := NB330_331.out
            have hnc8 := NB331_330.out
            have hcz9_0 : wr.cell? ⟨gb330, 0, none⟩ = some (.int .i64 a0_0) := (blk_cell BK330.out 0).trans rfl
            have hcz9_1 : wr.cell? ⟨gb330, 1, none⟩ = some (.int .i64 a0_1) := (blk_cell BK330.out 1).trans rfl
            have hcz9_2 : wr.cell? ⟨gb330, 2, none⟩ = some (.int .i64 a0_2) := (blk_cell BK330.out 2).trans rfl
            have hcz9_3 : wr.cell? ⟨gb330, 3, none⟩ = some (.slice A0_3 l0_3.length c0_3) := (blk_cell BK330.out 3).trans rfl
            have hfz9_0 := blk_frozen BK330.out 0
            have hfz9_1 := blk_frozen BK330.out 1
            have hfz9_2 := blk_frozen BK330.out 2
            have hfz9_3 := blk_frozen BK330.out 3
            have p332 : 0 ≤ (x6_1 : Int) := of_decide_eq_true (by first | (with_reducible assumption) | assumption)
            have q332 : x6_1 < (l0_3.length : Int) := of_decide_eq_true (by first | (with_reducible assumption) | assumption)
            obtain ⟨ad332, e332, hx332_0, hx332_1, hx332_2, hx332_3⟩ := at_T34 HR0_3.out x6_1 p332 q332
            cases e332
            replace hx332_0 := (HB.out.cell (World.block_lt_of_cell? w _ hx332_0)).trans hx332_0
            replace hx332_1 := (HB.out.cell (World.block_lt_of_cell? w _ hx332_1)).trans hx332_1
            replace hx332_2 := (HB.out.cell (World.block_lt_of_cell? w _ hx332_2)).trans hx332_2
            replace hx332_3 := (HB.out.cell (World.block_lt_of_cell? w _ hx332_3)).trans hx332_3
            replace p332 := eq_true p332
            replace q332 := eq_true q332
            have p333 : 0 ≤ (x6_1 : Int) := of_decide_eq_true (by first | (with_reducible assumption) | assumption)
            have q333 : x6_1 < (l0_3.length : Int) := of_decide_eq_true (by first | (with_reducible assumption) | assumption)
            obtain ⟨ad333, e333, hx333_0, hx333_1, hx333_2, hx333_3⟩ := at_T34 HR0_3.out x6_1 p333 q333
            obtain rfl : ad332 = ad333 := (by injection e333)
            replace hx333_0 := (HB.out.cell (World.block_lt_of_cell? w _ hx333_0)).trans hx333_0
            replace hx333_1 := (HB.out.cell (World.block_lt_of_cell? w _ hx333_1)).trans hx333_1
            replace hx333_2 := (HB.out.cell (World.block_lt_of_cell? w _ hx333_2)).trans hx333_2
            replace hx333_3 := (HB.out.cell (World.block_lt_of_cell? w _ hx333_3)).trans hx333_3
            replace p333 := eq_true p333
            replace q333 := eq_true q333
            have hcz10_0 : wr.cell? ⟨gb331, 0, none⟩ = some (.string x332000_1) := (blk_cell BK331.out 0).trans rfl
            have hcz10_1 : wr.cell? ⟨gb331, 1, none⟩ = some (.int .i64 x332001_1) := (blk_cell BK331.out 1).trans rfl
            have hcz10_2 : wr.cell? ⟨gb331, 2, none⟩ = some (.int .i64 x332002_1) := (blk_cell BK331.out 2).trans rfl
            have hcz10_3 : wr.cell? ⟨gb331, 3, none⟩ = some (.string x332003_1) := (blk_cell BK331.out 3).trans rfl
            have hfz10_0 := blk_frozen BK331.out 0
            have hfz10_1 := blk_frozen BK331.out 1
            have hfz10_2 := blk_frozen BK331.out 2
            have hfz10_3 := blk_frozen BK331.out 3
            go_wp2
            refine bodyPost_ret (results_ct rfl _ _ gb331 34 #[.string ((rd_T34 l0_3 x6_1).f0), .int .i64 ((rd_T34 l0_3 x6_1).f1), .int .i64 ((rd_T34 l0_3 x6_1).f2), .string ((rd_T34 l0_3 x6_1).f3)] (0, 0) _ rfl (by (with_reducible repeat (first | refine blk_drewN ?_ _ | refine blk_drew ?_ | refine blk_alloc ?_ _)); refine blk_put (cs := #[.string ((rd_T34 l0_3 x6_1).f0), .int .i64 ((rd_T34 l0_3 x6_1).f1), .int .i64 ((rd_T34 l0_3 x6_1).f2), .string x332003_1]) ?_ 3 _ rfl; (with_reducible repeat (first | refine blk_drewN ?_ _ | refine blk_drew ?_ | refine blk_alloc ?_ _)); refine blk_put (cs := #[.string ((rd_T34 l0_3 x6_1).f0), .int .i64 ((rd_T34 l0_3 x6_1).f1), .int .i64 x332002_1, .string x332003_1]) ?_ 2 _ rfl; (with_reducible repeat (first | refine blk_drewN ?_ _ | refine blk_drew ?_ | refine blk_alloc ?_ _)); refine blk_put (cs := #[.string ((rd_T34 l0_3 x6_1).f0), .int .i64 x332001_1, .int .i64 x332002_1, .string x332003_1]) ?_ 1 _ rfl; (with_reducible repeat (first | refine blk_drewN ?_ _ | refine blk_drew ?_ | refine blk_alloc ?_ _)); refine blk_put (cs := #[.string x332000_1, .int .i64 x332001_1, .int .i64 x332002_1, .string x332003_1]) ?_ 0 _ rfl; (with_reducible repeat (first | refine blk_drewN ?_ _ | refine blk_drew ?_ | refine blk_alloc ?_ _)); exact BK331.out) Tryd.underlying34 rfl (by kernel_rfl)) rfl ?_
            exact ⟨by first | rfl | (simp [errW_none, errW_some] <;> rfl) | (simp [*, errW_none, errW_some] <;> rfl) | (simp only [isEmpty_ne_, isEmpty_eq_]; rfl) | (simp [*, isEmpty_ne_, isEmpty_eq_]; done), by repeat (first | (with_reducible first | exact HB.out | apply below_alloc | apply pw_below_drewN | apply below_drew1 | refine below_set ?_ GE330.out | refine below_set ?_ GE331.out) | exact HB.out)⟩
          · rw [if_neg c7] at H
            have c7b0 : (((rd_T34 l0_3 x6_1).f0).toList == a1.toList) = false := beq_eq_false_iff_ne.mpr c7
            have c7b1 : (((rd_T34 l0_3 x6_1).f0).toList != a1.toList) = true := bne_iff_ne.mpr c7
            have H' := Aside0.mk H
            clear H
            have hnb11 := NB330_331.out
            have hnc11 := NB331_330.out
            have hcz12_0 : wr.cell? ⟨gb330, 0, none⟩ = some (.int .i64 a0_0) := (blk_cell BK330.out 0).trans rfl
            have hcz12_1 : wr.cell? ⟨gb330, 1, none⟩ = some (.int .i64 a0_1) := (blk_cell BK330.out 1).trans rfl
            have hcz12_2 : wr.cell? ⟨gb330, 2, none⟩ = some (.int .i64 a0_2) := (blk_cell BK330.out 2).trans rfl
            have hcz12_3 : wr.cell? ⟨gb330, 3, none⟩ = some (.slice A0_3 l0_3.length c0_3) := (blk_cell BK330.out 3).trans rfl
            have hfz12_0 := blk_frozen BK330.out 0
            have hfz12_1 := blk_frozen BK330.out 1
            have hfz12_2 := blk_frozen BK330.out 2
            have hfz12_3 := blk_frozen BK330.out 3
            have p332 : 0 ≤ (x6_1 : Int) := of_decide_eq_true (by first | (with_reducible assumption) | assumption)
            have q332 : x6_1 < (l0_3.length : Int) := of_decide_eq_true (by first | (with_reducible assumption) | assumption)
            obtain ⟨ad332, e332, hx332_0, hx332_1, hx332_2, hx332_3⟩ := at_T34 HR0_3.out x6_1 p332 q332
            cases e332
            replace hx332_0 := (HB.out.cell (World.block_lt_of_cell? w _ hx332_0)).trans hx332_0
            replace hx332_1 := (HB.out.cell (World.block_lt_of_cell? w _ hx332_1)).trans hx332_1
            replace hx332_2 := (HB.out.cell (World.block_lt_of_cell? w _ hx332_2)).trans hx332_2
            replace hx332_3 := (HB.out.cell (World.block_lt_of_cell? w _ hx332_3)).trans hx332_3
            replace p332 := eq_true p332
            replace q332 := eq_true q332
            go_wp2
            go_roundg k1
            case measure => have := HK1.out; omega
            case rel => exact ⟨(wrap64 (x6_1 + 1)), (x332000_1), (x332001_1), (x332002_1), (x332003_1), (by first | rfl | (simp; done) | (simp [*]; done) | (simp only [isEmpty_ne_]; done)), H', ⟨by have := HK1.out; omega⟩, ⟨by (with_reducible repeat (first | refine blk_drewN ?_ _ | refine blk_drew ?_ | refine blk_alloc ?_ _)); exact BK330.out⟩, ⟨by (with_reducible repeat (first | refine blk_drewN ?_ _ | refine blk_drew ?_ | refine blk_alloc ?_ _)); exact BK331.out⟩, ⟨by repeat (first | (with_reducible first | exact HB.out | apply below_alloc | apply pw_below_drewN | apply below_drew1 | refine below_set ?_ GE330.out | refine below_set ?_ GE331.out) | exact HB.out)⟩⟩
        · rw [if_neg c6] at H
          exact absurd H (by simp)
      · rw [if_neg c5] at H
        have c5b0 : decide (x6_1 < (l0_3.length : Int)) = false := decide_eq_false c5
        clear c5
        simp only [Option.some.injEq, Prod.mk.injEq] at H
        obtain ⟨rfl, rfl, rfl, rfl, rfl⟩ := H
        have hnb13 := NB330_331.out
        have hnc13 := NB331_330.out
        have hcz14_0 : wr.cell? ⟨gb330, 0, none⟩ = some (.int .i64 a0_0) := (blk_cell BK330.out 0).trans rfl
        have hcz14_1 : wr.cell? ⟨gb330, 1, none⟩ = some (.int .i64 a0_1) := (blk_cell BK330.out 1).trans rfl
        have hcz14_2 : wr.cell? ⟨gb330, 2, none⟩ = some (.int .i64 a0_2) := (blk_cell BK330.out 2).trans rfl
        have hcz14_3 : wr.cell? ⟨gb330, 3, none⟩ = some (.slice A0_3 l0_3.length c0_3) := (blk_cell BK330.out 3).trans rfl
        have hfz14_0 := blk_frozen BK330.out 0
        have hfz14_1 := blk_frozen BK330.out 1
        have hfz14_2 := blk_frozen BK330.out 2
        have hfz14_3 := blk_frozen BK330.out 3
        have hcz15_0 : wr.cell? ⟨gb331, 0, none⟩ = some (.string x332000_1) := (blk_cell BK331.out 0).trans rfl
        have hcz15_1 : wr.cell? ⟨gb331, 1, none⟩ = some (.int .i64 x332001_1) := (blk_cell BK331.out 1).trans rfl
        have hcz15_2 : wr.cell? ⟨gb331, 2, none⟩ = some (.int .i64 x332002_1) := (blk_cell BK331.out 2).trans rfl
        have hcz15_3 : wr.cell? ⟨gb331, 3, none⟩ = some (.string x332003_1) := (blk_cell BK331.out 3).trans rfl
        have hfz15_0 := blk_frozen BK331.out 0
        have hfz15_1 := blk_frozen BK331.out 1
        have hfz15_2 := blk_frozen BK331.out 2
        have hfz15_3 := blk_frozen BK331.out 3
        go_wp2
        refine bodyPost_ret (results_ct rfl _ _ gb331 34 #[.string (⟨#[]⟩ : ByteArray), .int .i64 0, .int .i64 0, .string (⟨#[]⟩ : ByteArray)] (0, 0) _ rfl (by (with_reducible repeat (first | refine blk_drewN ?_ _ | refine blk_drew ?_ | refine blk_alloc ?_ _)); refine blk_put (cs := #[.string (⟨#[]⟩ : ByteArray), .int .i64 0, .int .i64 0, .string x332003_1]) ?_ 3 _ rfl; (with_reducible repeat (first | refine blk_drewN ?_ _ | refine blk_drew ?_ | refine blk_alloc ?_ _)); refine blk_put (cs := #[.string (⟨#[]⟩ : ByteArray), .int .i64 0, .int .i64 x332002_1, .string x332003_1]) ?_ 2 _ rfl; (with_reducible repeat (first | refine blk_drewN ?_ _ | refine blk_drew ?_ | refine blk_alloc ?_ _)); refine blk_put (cs := #[.string (⟨#[]⟩ : ByteArray), .int .i64 x332001_1, .int .i64 x332002_1, .string x332003_1]) ?_ 1 _ rfl; (with_reducible repeat (first | refine blk_drewN ?_ _ | refine blk_drew ?_ | refine blk_alloc ?_ _)); refine blk_put (cs := #[.string x332000_1, .int .i64 x332001_1, .int .i64 x332002_1, .string x332003_1]) ?_ 0 _ rfl; (with_reducible repeat (first | refine blk_drewN ?_ _ | refine blk_drew ?_ | refine blk_alloc ?_ _)); exact BK331.out) Tryd.underlying34 rfl (by kernel_rfl)) rfl ?_
        exact ⟨by first | rfl | (simp [errW_none, errW_some] <;> rfl) | (simp [*, errW_none, errW_some] <;> rfl) | (simp only [isEmpty_ne_, isEmpty_eq_]; rfl) | (simp [*, isEmpty_ne_, isEmpty_eq_]; done), by repeat (first | (with_reducible first | exact HB.out | apply below_alloc | apply pw_below_drewN | apply below_drew1 | refine below_set ?_ GE330.out | refine below_set ?_ GE331.out) | exact HB.out)⟩
def kauditref03_SamePairs.l0 : Nat → List (S34) → List (S34) → Int → Option (Bool)
  | 0, _, _, _ => none
  | k + 1, x0, x1, x5 => if x5 < (x0.length : Int) then (if 0 ≤ x5 then (if x5 < (x1.length : Int) then (if (!((((rd_T34 x0 x5).f0).toList) == (((rd_T34 x1 x5).f0).toList)) || (!(((rd_T34 x0 x5).f1) == ((rd_T34 x1 x5).f1)) || (!(((rd_T34 x0 x5).f2) == ((rd_T34 x1 x5).f2)) || (!((((rd_T34 x0 x5).f3).toList) == (((rd_T34 x1 x5).f3).toList)))))) = true then (some false) else (kauditref03_SamePairs.l0 k x0 x1 (wrap64 (x5 + 1)))) else (none)) else (none)) else (some true)
def kauditref03_SamePairs.f (k : Nat) (l0 : List (S34)) (l1 : List (S34)) : Option (Bool) := if (l0.length : Int) = (l1.length : Int) then (kauditref03_SamePairs.l0 k l0 l1 0) else (some false)
theorem kauditref03_SamePairs.mono_l : ∀ k, (∀ y0 y1 y2, LeO (kauditref03_SamePairs.l0 k y0 y1 y2) (kauditref03_SamePairs.l0 (k + 1) y0 y1 y2))
  | 0 => fun _ _ _ r h => by simp [kauditref03_SamePairs.l0] at h
  | k + 1 => by
    have ih0 := kauditref03_SamePairs.mono_l k
    · intro y0 y1 y2
      unfold kauditref03_SamePairs.l0
      repeat' first
      | (with_reducible exact ih0 _ _ _)
      | (with_reducible exact LeO.refl _)
      | (with_reducible exact LeO.none _)
      | (with_reducible refine LeO.ite ?_ ?_)
      | (with_reducible refine LeO.bind ?_ (fun _ => ?_))
      | exact ih0 _ _ _
      | exact LeO.none _
      | refine LeO.ite ?_ ?_
      | refine LeO.bind ?_ (fun _ => ?_)
theorem kauditref03_SamePairs.mono : ∀ a0 a1 k, LeO (kauditref03_SamePairs.f k a0 a1) (kauditref03_SamePairs.f (k + 1) a0 a1) := by
  intro a0 a1 k
  have ih0 := kauditref03_SamePairs.mono_l k
  unfold kauditref03_SamePairs.f
  repeat' first
      | (with_reducible exact ih0 _ _ _)
      | (with_reducible exact LeO.refl _)
      | (with_reducible exact LeO.none _)
      | (with_reducible refine LeO.ite ?_ ?_)
      | (with_reducible refine LeO.bind ?_ (fun _ => ?_))
      | exact ih0 _ _ _
      | exact LeO.none _
      | refine LeO.ite ?_ ?_
      | refine LeO.bind ?_ (fun _ => ?_)
def kauditref03_Same.f (k : Nat) (a0_0 : Int) (a0_1 : Int) (a0_2 : Int) (l0_3 : List (S34)) (a1_0 : Int) (a1_1 : Int) (a1_2 : Int) (l1_3 : List (S34)) : Option (Bool) := if a0_0 = a1_0 then (if a0_1 = a1_1 then (if a0_2 = a1_2 then ((kauditref03_SamePairs.f k l0_3 l1_3).bind fun t384 => (some t384)) else (some false)) else (some false)) else (some false)
theorem kauditref03_Same.mono : ∀ a0 a1 a2 a3 a4 a5 a6 a7 k, LeO (kauditref03_Same.f k a0 a1 a2 a3 a4 a5 a6 a7) (kauditref03_Same.f (k + 1) a0 a1 a2 a3 a4 a5 a6 a7) := by
  intro a0 a1 a2 a3 a4 a5 a6 a7 k
  unfold kauditref03_Same.f
  repeat' first
      | (with_reducible exact kauditref03_SamePairs.mono _ _ _)
      | (with_reducible exact LeO.refl _)
      | (with_reducible exact LeO.none _)
      | (with_reducible refine LeO.ite ?_ ?_)
      | (with_reducible refine LeO.bind ?_ (fun _ => ?_))
      | exact kauditref03_SamePairs.mono _ _ _
      | exact LeO.none _
      | refine LeO.ite ?_ ?_
      | refine LeO.bind ?_ (fun _ => ?_)
end Go.Proofs.YtjnlmmjadlidlaaDoor.PRec
end
section
namespace Go.Proofs.YtjnlmmjadlidlaaDoor.Pure3
open Go.RowKit Go.Proofs.YtjnlmmjadlidlaaDoor.PRec Go.Proofs.YtjnlmmjadlidlaaDoorW.PrintWords
def At (i m : Int) : Prop := 0 ≤ i ∧ i ≤ m
theorem rdl_mem {l : List Int} {i : Int} (h0 : 0 ≤ i) (h1 : i < l.length) : rd l i ∈ l := by
  unfold rd
  rw [List.getD_eq_getElem?_getD, List.getElem?_eq_getElem (by omega)]
  exact List.getElem_mem _
theorem tmod_fix {x n : Int} (hn : 1 ≤ n) (hm : n ≤ 100000) : ∃ v, (if Int.tmod x n < 0 then some (wrap64 (Int.tmod x n + n), (0 : Int)) else some (Int.tmod x n, 0)) = some (v, 0) ∧ 0 ≤ v ∧ v < n := by
  have h1 := Int.tmod_lt_of_pos x (b := n) (by omega)
  have h2 := Int.lt_tmod_of_pos x (b := n) (by omega)
  by_cases h : Int.tmod x n < 0
  · exact ⟨Int.tmod x n + n, by rw [if_pos h, w64 (by omega) (by omega)], by omega, by omega⟩
  · exact ⟨Int.tmod x n, by rw [if_neg h], by omega, h1⟩
theorem n_f {l : List Int} {i n m : Int} (hi : At i m) (hm : m ≤ 100000) (hn : 1 ≤ n) (hn2 : n ≤ 100000) : ∃ v, kauditmake_Src_N.f l i n = some (v, i + 1) ∧ 0 ≤ v ∧ v < n := by
  obtain ⟨h0, h1⟩ := hi
  unfold kauditmake_Src_N.f
  have e1 : wrap64 (i + 1) = i + 1 := w64 (by omega) (by omega)
  have e2 : wrap64 (i + 1 - 1) = i := by rw [w64 (by omega) (by omega)]; omega
  have e3 : wrap64 ((i + 1) * 7) = (i + 1) * 7 := w64 (by omega) (by omega)
  rw [if_neg (by omega), e1, e2, e3]
  have key : ∀ x : Int, ∃ v, (if n = 0 then none else if Int.tmod x n < 0 then some (wrap64 (Int.tmod x n + n), i + 1) else some (Int.tmod x n, i + 1)) = some (v, i + 1) ∧ 0 ≤ v ∧ v < n := by
    intro x
    obtain ⟨v, hv, a, b⟩ := tmod_fix (x := x) hn hn2
    refine ⟨v, ?_, a, b⟩
    rw [if_neg (by omega)]
    by_cases h : Int.tmod x n < 0
    · rw [if_pos h] at hv ⊢
      injection hv with hv
      injection hv with hv _
      rw [hv]
    · rw [if_neg h] at hv ⊢
      injection hv with hv
      injection hv with hv _
      rw [hv]
  by_cases hl : i + 1 ≤ (l.length : Int)
  · rw [if_pos hl, if_pos h0, if_pos (by omega)]
    exact key _
  · rw [if_neg hl]
    exact key _
theorem spick_f {l : List Int} {i m : Int} (hi : At i m) (hm : m ≤ 100000) {l1 : List Int} (h1 : 1 ≤ l1.length) (h2 : l1.length ≤ 1000) : ∃ v, kauditmake_Src_Pick.f l i l1 = some (v, i + 1) ∧ v ∈ l1 := by
  obtain ⟨v, hv, a, b⟩ := n_f (l := l) (n := (l1.length : Int)) hi hm (by omega) (by omega)
  unfold kauditmake_Src_Pick.f
  rw [hv]
  simp only [Option.bind_some]
  rw [if_pos a, if_pos b]
  exact ⟨_, rfl, rdl_mem a b⟩
theorem sword_f {l : List Int} {i m : Int} (hi : At i m) (hm : m ≤ 100000) {l1 : List ByteArray} (h1 : 1 ≤ l1.length) (h2 : l1.length ≤ 1000) : ∃ v, kauditmake_Src_Word.f l i l1 = some (v, i + 1) ∧ v ∈ l1 := by
  obtain ⟨v, hv, a, b⟩ := n_f (l := l) (n := (l1.length : Int)) hi hm (by omega) (by omega)
  unfold kauditmake_Src_Word.f
  rw [hv]
  simp only [Option.bind_some]
  rw [if_pos a, if_pos b]
  refine ⟨_, rfl, ?_⟩
  unfold rdOf
  rw [List.getD_eq_getElem?_getD, List.getElem?_eq_getElem (by omega)]
  exact List.getElem_mem _
theorem srange_f {l : List Int} {i m lo hi : Int} (hi0 : At i m) (hm : m ≤ 100000) (h1 : lo ≤ hi) (h2 : -10000 ≤ lo) (h3 : hi ≤ 10000) : ∃ v, kauditmake_Src_Range.f l i lo hi = some (v, i + 1) ∧ lo ≤ v ∧ v ≤ hi := by
  have e1 : wrap64 (wrap64 (hi - lo) + 1) = hi - lo + 1 := by rw [w64 (x := hi - lo) (by omega) (by omega), w64 (by omega) (by omega)]
  obtain ⟨v, hv, a, b⟩ := n_f (l := l) (n := hi - lo + 1) hi0 hm (by omega) (by omega)
  unfold kauditmake_Src_Range.f
  rw [e1, hv]
  simp only [Option.bind_some]
  rw [w64 (by omega) (by omega)]
  exact ⟨_, rfl, by omega, by omega⟩
theorem text_l0 {l : List Int} (d : Nat) : ∀ (s : ByteArray) (i m : Int), At i m → m + d ≤ 100000 → s.size + d ≤ 1000 → ∃ s' j, Ev (fun k => kauditmake_Src_Text.l0 k s (d : Int) l i) (s', j) ∧ At j (m + d) ∧ s'.size ≤ s.size + d := by
  induction d with
  | zero =>
    intro s i m hi hm hs
    refine ⟨s, i, Ev.step (f := fun _ => some (s, i)) (fun k => ?_) (Ev.now _), by obtain ⟨a, b⟩ := hi; exact ⟨a, by omega⟩, by omega⟩
    simp only [kauditmake_Src_Text.l0]
    rw [if_neg (by omega)]
  | succ d ih =>
    intro s i m hi hm hs
    obtain ⟨v, hv, hmem⟩ := sword_f (l := l) (l1 := [(⟨#[97]⟩ : ByteArray), (⟨#[66]⟩ : ByteArray), (⟨#[55]⟩ : ByteArray), (⟨#[47]⟩ : ByteArray), (⟨#[34]⟩ : ByteArray), (⟨#[32]⟩ : ByteArray), (⟨#[0]⟩ : ByteArray), (⟨#[255]⟩ : ByteArray), (⟨#[61]⟩ : ByteArray), (⟨#[10]⟩ : ByteArray), (⟨#[126]⟩ : ByteArray), (⟨#[33]⟩ : ByteArray)]) hi (by omega) (by decide) (by decide)
    have hz : v.size ≤ 1 := by
      have hall : ∀ s ∈ [(⟨#[97]⟩ : ByteArray), (⟨#[66]⟩ : ByteArray), (⟨#[55]⟩ : ByteArray), (⟨#[47]⟩ : ByteArray), (⟨#[34]⟩ : ByteArray), (⟨#[32]⟩ : ByteArray), (⟨#[0]⟩ : ByteArray), (⟨#[255]⟩ : ByteArray), (⟨#[61]⟩ : ByteArray), (⟨#[10]⟩ : ByteArray), (⟨#[126]⟩ : ByteArray), (⟨#[33]⟩ : ByteArray)], s.size ≤ 1 := by decide
      exact hall v hmem
    obtain ⟨a, b⟩ := hi
    have hz2 : (s ++ v).size = s.size + v.size := ByteArray.size_append
    obtain ⟨s', j, he, hj, hs'⟩ := ih (s ++ v) (i + 1) (m + 1) ⟨by omega, by omega⟩ (by omega) (by omega)
    refine ⟨s', j, Ev.step (f := fun k => kauditmake_Src_Text.l0 k (s ++ v) (d : Int) l (i + 1)) (fun k => ?_) he, by obtain ⟨c, e⟩ := hj; exact ⟨c, by omega⟩, by omega⟩
    simp only [kauditmake_Src_Text.l0]
    rw [if_pos (by omega), hv]
    simp only [Option.bind_some]
    rw [if_pos (by omega), w64 (by omega) (by omega), show ((d + 1 : Nat) : Int) - 1 = (d : Int) by omega]
theorem text_f {l : List Int} {i m : Int} (hi : At i m) (hm : m ≤ 10000) : ∃ s j, Ev (fun k => kauditmake_Src_Text.f k l i) (s, j) ∧ At j (m + 6) ∧ s.size ≤ 5 := by
  obtain ⟨v, hv, a, b⟩ := n_f (l := l) (n := 5) hi (by omega) (by omega) (by omega)
  obtain ⟨c, d⟩ := hi
  obtain ⟨s', j, he, hj, hs'⟩ := text_l0 (l := l) v.toNat ⟨#[]⟩ (i + 1) (m + 1) ⟨by omega, by omega⟩ (by omega) (by show 0 + _ ≤ _; omega)
  refine ⟨s', j, ?_, by obtain ⟨p, q⟩ := hj; exact ⟨p, by omega⟩, ?_⟩
  · refine Ev.congr (fun k => ?_) he
    unfold kauditmake_Src_Text.f
    rw [hv]
    simp only [Option.bind_some]
    rw [show ((v.toNat : Nat) : Int) = v by omega]
  · have : (⟨#[]⟩ : ByteArray).size = 0 := rfl
    omega
def up34 (x : S34) (j : Int) : ByteArray × Int × Int × ByteArray × Int := (x.f0, x.f1, x.f2, x.f3, j)
theorem pair_j0 {l : List Int} {i m : Int} (hi : At i m) (hm : m ≤ 10000) (x : S34) (hx : I64 x.f2) : ∃ y j, Ev (fun k => kauditmake_Src_Pair.j0 k l i x.f0 x.f1 x.f2 x.f3) (up34 y j) ∧ At j (m + 3) ∧ I64 y.f2 := by
  obtain ⟨v, hv, a, b⟩ := n_f (l := l) (n := 24) hi (by omega) (by omega) (by omega)
  obtain ⟨c, d⟩ := hi
  by_cases h : v = 23
  · obtain ⟨s, hs, _⟩ := sword_f (l := l) (i := i + 1) (m := m + 1) (l1 := [(⟨#[]⟩ : ByteArray), (⟨#[65]⟩ : ByteArray), (⟨#[49, 97]⟩ : ByteArray), (⟨#[97, 45, 98]⟩ : ByteArray), (⟨#[97, 98, 99, 100, 101, 102, 103, 104, 105, 106, 107, 108, 109, 110, 111, 112]⟩ : ByteArray), (⟨#[97, 98, 99, 100, 101, 102, 103, 104, 105, 106, 107, 108, 109, 110, 111, 112, 113]⟩ : ByteArray)]) ⟨by omega, by omega⟩ (by omega) (by decide) (by decide)
    obtain ⟨u, hu, p, q⟩ := n_f (l := l) (i := i + 1 + 1) (m := m + 2) (n := 2) ⟨by omega, by omega⟩ (by omega) (by omega) (by omega)
    refine ⟨⟨s, x.f1, u, x.f3⟩, i + 1 + 1 + 1, Ev.step (f := fun _ => some (s, x.f1, u, x.f3, i + 1 + 1 + 1)) (fun k => ?_) (Ev.now _), ⟨by omega, by omega⟩, ⟨by show _ ≤ u; omega, by show u ≤ _; omega⟩⟩
    simp only [kauditmake_Src_Pair.j0]
    rw [hv]
    simp only [Option.bind_some]
    rw [if_pos h, hs]
    simp only [Option.bind_some]
    rw [hu]
    rfl
  · refine ⟨x, i + 1, Ev.step (f := fun _ => some (x.f0, x.f1, x.f2, x.f3, i + 1)) (fun k => ?_) (Ev.now _), ⟨by omega, by omega⟩, hx⟩
    simp only [kauditmake_Src_Pair.j0]
    rw [hv]
    simp only [Option.bind_some]
    rw [if_neg h]
theorem pair_f {l : List Int} {i m : Int} (hi : At i m) (hm : m ≤ 9000) : ∃ y j, Ev (fun k => kauditmake_Src_Pair.f k l i) (up34 y j) ∧ At j (m + 20) ∧ I64 y.f2 := by
  obtain ⟨nm, hnm, _⟩ := sword_f (l := l) (l1 := [(⟨#[97]⟩ : ByteArray), (⟨#[98]⟩ : ByteArray), (⟨#[117, 105, 100]⟩ : ByteArray), (⟨#[107, 101, 121]⟩ : ByteArray), (⟨#[97, 48]⟩ : ByteArray), (⟨#[120, 95, 49]⟩ : ByteArray), (⟨#[112, 105, 100]⟩ : ByteArray), (⟨#[112, 97, 116, 104]⟩ : ByteArray)]) hi (by omega) (by decide) (by decide)
  obtain ⟨c, d⟩ := hi
  obtain ⟨kd, hkd, ka, kb⟩ := srange_f (l := l) (i := i + 1) (m := m + 1) (lo := 1) (hi := 3) ⟨by omega, by omega⟩ (by omega) (by omega) (by omega) (by omega)
  unfold kauditmake_Src_Pair.f
  rw [hnm]
  simp only [Option.bind_some]
  rw [hkd]
  simp only [Option.bind_some]
  by_cases h1 : kd = 1
  · obtain ⟨u, hu, p, q⟩ := n_f (l := l) (i := i + 1 + 1) (m := m + 2) (n := 1000) ⟨by omega, by omega⟩ (by omega) (by omega) (by omega)
    obtain ⟨v, hv, hmem⟩ := spick_f (l := l) (i := i + 1 + 1 + 1) (m := m + 3) (l1 := [0, 1, (-1), 42, 9223372036854775807, (-9223372036854775808), u]) ⟨by omega, by omega⟩ (by omega) (by simp) (by simp)
    have hv64 : I64 v := by
      simp only [List.mem_cons, List.not_mem_nil, or_false] at hmem
      unfold I64
      omega
    obtain ⟨y, j, he, hj, hy⟩ := pair_j0 (l := l) (i := i + 1 + 1 + 1 + 1) (m := m + 4) ⟨by omega, by omega⟩ (by omega) ⟨nm, kd, v, ⟨#[]⟩⟩ hv64
    refine ⟨y, j, Ev.congr (fun k => ?_) he, by obtain ⟨p, q⟩ := hj; exact ⟨p, by omega⟩, hy⟩
    rw [if_pos h1, hu]
    simp only [Option.bind_some]
    rw [hv]
    rfl
  · by_cases h2 : kd = 2
    · obtain ⟨s, j1, hs, hj1, _⟩ := text_f (l := l) (i := i + 1 + 1) (m := m + 2) ⟨by omega, by omega⟩ (by omega)
      obtain ⟨y, j, he, hj, hy⟩ := pair_j0 (l := l) hj1 (by omega) ⟨nm, kd, 0, s⟩ ⟨by show (-9223372036854775808 : Int) ≤ 0; omega, by show (0 : Int) ≤ _; omega⟩
      refine ⟨y, j, Ev.congr (fun k => by rw [if_neg h1, if_pos h2]) (Ev.bind hs he), by obtain ⟨p, q⟩ := hj; exact ⟨p, by omega⟩, hy⟩
    · obtain ⟨y, j, he, hj, hy⟩ := pair_j0 (l := l) (i := i + 1 + 1) (m := m + 2) ⟨by omega, by omega⟩ (by omega) ⟨nm, kd, 0, ⟨#[]⟩⟩ ⟨by show (-9223372036854775808 : Int) ≤ 0; omega, by show (0 : Int) ≤ _; omega⟩
      exact ⟨y, j, Ev.congr (fun k => by rw [if_neg h1, if_neg h2]) he, by obtain ⟨p, q⟩ := hj; exact ⟨p, by omega⟩, hy⟩
def up50 (x : S50) (j : Int) : Int × Int × Int × List S34 × Int := (x.f0, x.f1, x.f2, x.f3, j)
theorem nums_snoc {ps : List S34} {x : S34} (h : Nums ps) (hx : I64 x.f2) : Nums (ps ++ [x]) := fun y hy => by
  rcases List.mem_append.1 hy with h1 | h1
  · exact h y h1
  · rw [List.mem_singleton.1 h1]; exact hx
theorem record_l0 {l : List Int} (d : Nat) : ∀ (i m : Int) (x : S50), At i m → m + 30 * d ≤ 5000 → x.f3.length + d ≤ 100 → Nums x.f3 →
    ∃ y j, Ev (fun k => kauditmake_Src_Record.l0 k (d : Int) l i x.f0 x.f1 x.f2 x.f3) (up50 y j) ∧ At j (m + 30 * d + 10) ∧ Nums y.f3 ∧ y.f3.length ≤ x.f3.length + d := by
  induction d with
  | zero =>
    intro i m x hi hm hl hn
    obtain ⟨v, hv, a, b⟩ := n_f (l := l) (n := 20) hi (by omega) (by omega) (by omega)
    obtain ⟨c, d⟩ := hi
    by_cases h : v = 19
    · obtain ⟨t, ht, _, _⟩ := srange_f (l := l) (i := i + 1) (m := m + 1) (lo := 1299) (hi := 1303) ⟨by omega, by omega⟩ (by omega) (by omega) (by omega) (by omega)
      obtain ⟨tm, htm, _, _⟩ := srange_f (l := l) (i := i + 1 + 1) (m := m + 2) (lo := -1) (hi := 1) ⟨by omega, by omega⟩ (by omega) (by omega) (by omega) (by omega)
      refine ⟨⟨t, tm, x.f2, x.f3⟩, i + 1 + 1 + 1, Ev.step (f := fun _ => some (t, tm, x.f2, x.f3, i + 1 + 1 + 1)) (fun k => ?_) (Ev.now _), ⟨by omega, by omega⟩, hn, Nat.le_refl _⟩
      simp only [kauditmake_Src_Record.l0]
      rw [if_neg (by omega), hv]
      simp only [Option.bind_some]
      rw [if_pos h, ht]
      simp only [Option.bind_some]
      rw [htm]
      rfl
    · refine ⟨x, i + 1, Ev.step (f := fun _ => some (x.f0, x.f1, x.f2, x.f3, i + 1)) (fun k => ?_) (Ev.now _), ⟨by omega, by omega⟩, hn, Nat.le_refl _⟩
      simp only [kauditmake_Src_Record.l0]
      rw [if_neg (by omega), hv]
      simp only [Option.bind_some]
      rw [if_neg h]
  | succ d ih =>
    intro i m x hi hm hl hn
    obtain ⟨p, j1, hp, hj1, hp2⟩ := pair_f (l := l) hi (by omega)
    obtain ⟨c, e⟩ := hj1
    have hlen : (x.f3 ++ [p]).length = x.f3.length + 1 := by simp
    obtain ⟨y, j, he, hj, hny, hly⟩ := ih j1 (m + 30) ⟨x.f0, x.f1, x.f2, x.f3 ++ [p]⟩ ⟨c, by omega⟩ (by omega) (by show (x.f3 ++ [p]).length + d ≤ 100; omega) (nums_snoc hn hp2)
    refine ⟨y, j, Ev.step (f := fun k => (kauditmake_Src_Pair.f k l i).bind fun bt312 => if x.f3.length < 2932031007402 then kauditmake_Src_Record.l0 k (d : Int) l bt312.2.2.2.2 x.f0 x.f1 x.f2 (x.f3 ++ [(⟨bt312.1, bt312.2.1, bt312.2.2.1, bt312.2.2.2.1⟩ : S34)]) else none) (fun k => ?_) ?_, ?_, hny, ?_⟩
    · simp only [kauditmake_Src_Record.l0]
      rw [if_pos (by omega), w64 (by omega) (by omega), show ((d + 1 : Nat) : Int) - 1 = (d : Int) by omega]
    · refine Ev.bind hp ?_
      exact Ev.congr (fun k => if_pos (by omega)) he
    · obtain ⟨q, r⟩ := hj; exact ⟨q, by omega⟩
    · have : (x.f3 ++ [p]).length = x.f3.length + 1 := hlen
      show y.f3.length ≤ _
      have hly : y.f3.length ≤ (x.f3 ++ [p]).length + d := hly
      omega
theorem srecord_f {l : List Int} {i m : Int} (hi : At i m) (hm : m ≤ 2000) : ∃ y j, Ev (fun k => kauditmake_Src_Record.f k l i) (up50 y j) ∧ At j (m + 150) ∧ Nums y.f3 ∧ y.f3.length ≤ 4 := by
  obtain ⟨t, ht, _⟩ := spick_f (l := l) (l1 := [1005, 1200, 1300, 1302, 1305, 1306, 1307, 1309, 1320, 1331]) hi (by omega) (by decide) (by decide)
  obtain ⟨c, d⟩ := hi
  obtain ⟨tm, htm, _⟩ := spick_f (l := l) (i := i + 1) (m := m + 1) (l1 := [0, 5, 999, 1000, 12345, 1099511627776]) ⟨by omega, by omega⟩ (by omega) (by decide) (by decide)
  obtain ⟨se, hse, _⟩ := spick_f (l := l) (i := i + 1 + 1) (m := m + 2) (l1 := [0, 1, 7, 1073741824]) ⟨by omega, by omega⟩ (by omega) (by decide) (by decide)
  obtain ⟨n, hn, n0, n1⟩ := n_f (l := l) (i := i + 1 + 1 + 1) (m := m + 3) (n := 4) ⟨by omega, by omega⟩ (by omega) (by omega) (by omega)
  obtain ⟨y, j, he, hj, hny, hly⟩ := record_l0 (l := l) n.toNat (i + 1 + 1 + 1 + 1) (m + 4) ⟨t, tm, se, []⟩ ⟨by omega, by omega⟩ (by omega) (by simp; omega) (fun x hx => by cases hx)
  refine ⟨y, j, Ev.congr (fun k => ?_) he, by obtain ⟨p, q⟩ := hj; exact ⟨p, by omega⟩, hny, by simp at hly; omega⟩
  unfold kauditmake_Src_Record.f
  rw [ht]
  simp only [Option.bind_some]
  rw [htm]
  simp only [Option.bind_some]
  rw [hse]
  simp only [Option.bind_some]
  rw [hn]
  simp only [Option.bind_some]
  rw [show ((n.toNat : Nat) : Int) = n by omega]
end Go.Proofs.YtjnlmmjadlidlaaDoor.Pure3
end
section
namespace Go.Proofs.YtjnlmmjadlidlaaDoor.Pure3
open Go.RowKit Go.Proofs.YtjnlmmjadlidlaaDoor.PRec Go.Proofs.YtjnlmmjadlidlaaDoorW.PrintWords
def cwdP : S34 := ⟨(⟨#[99, 119, 100]⟩ : ByteArray), 2, 0, (⟨#[47, 116, 109, 112]⟩ : ByteArray)⟩
theorem cwd_check : checkR 1307 12345 7 [cwdP] = 0 := by decide +kernel
theorem cwd_text : fmt34 cwdP = ⟨#[99, 119, 100, 61, 34, 47, 116, 109, 112, 34]⟩ := by
  have h : chk cwdP = 0 := by decide +kernel
  have h' : checkV cwdP.f0 cwdP.f1 cwdP.f2 cwdP.f3 = 0 := h
  unfold fmt34 fmtV
  rw [if_pos h']
  show (cwdP.f0 ++ (⟨#[61]⟩ : ByteArray)) ++ textV 2 0 cwdP.f3 = _
  unfold textV
  rw [if_neg (by decide), if_pos rfl]
  unfold quoteS
  rw [if_neg (by decide), if_pos (by decide +kernel)]
  decide +kernel
theorem cwd_head : lineHead 1307 12345 7 = ⟨#[116, 121, 112, 101, 61, 67, 87, 68, 32, 109, 115, 103, 61, 97, 117, 100, 105, 116, 40, 49, 50, 46, 51, 52, 53, 58, 55, 41, 58]⟩ := by
  have e1 : Lib.itoa (Int.tdiv 12345 1000) = [49, 50] := by
    rw [show Int.tdiv 12345 1000 = 12 from rfl, itoa_pos (by decide), show (12 : Int).toNat = 12 from rfl, Lib.decDigits_two (by omega) (by omega)]
    rfl
  have e2 : Lib.itoa (Int.tmod 12345 1000) = [51, 52, 53] := by
    rw [show Int.tmod 12345 1000 = 345 from rfl, itoa_pos (by decide), show (345 : Int).toNat = 345 from rfl, Lib.decDigits, dif_neg (by omega), Lib.decDigits_two (by omega) (by omega)]
    rfl
  have e3 : Lib.itoa 7 = [55] := by
    rw [itoa_pos (by decide), show (7 : Int).toNat = 7 from rfl, Lib.decDigits_one (by omega)]
    rfl
  have e4 : typeName 1307 = ⟨#[67, 87, 68]⟩ := by rfl
  unfold lineHead head1 head2 head3 msS
  rw [e1, e2, e3, e4]
  rfl
theorem awake_ev : Ev (fun k => kauditlaw03_awake.f k) true := by
  unfold kauditlaw03_awake.f
  refine Ev.bind (format_ev 1307 12345 7 [cwdP] (fun x hx => by rw [List.mem_singleton.1 hx]; exact ⟨by decide, by decide⟩)) ?_
  have e : formatR 1307 12345 7 [cwdP] = (⟨#[116, 121, 112, 101, 61, 67, 87, 68, 32, 109, 115, 103, 61, 97, 117, 100, 105, 116, 40, 49, 50, 46, 51, 52, 53, 58, 55, 41, 58, 32, 99, 119, 100, 61, 34, 47, 116, 109, 112, 34]⟩, 0) := by
    unfold formatR
    rw [if_pos cwd_check]
    simp only [textPairs]
    rw [cwd_text, cwd_head]
    rfl
  rw [e]
  refine Ev.congr (fun k => ?_) (Ev.now true)
  rw [if_pos rfl]
  simp [ByteArray.toList_eq]
end Go.Proofs.YtjnlmmjadlidlaaDoor.Pure3
end
