-- Written by a program of mine (wip/kprint.sh): a plain Lean function for each Go function, and the proof that the Go code comes to its answers. Not trusted: Lean checks it.
import Derived.Test.YtjnlmmjadlidlaaDoorPRecx0
import Derived.Test.YtjnlmmjadlidlaaDoorRE3
import Derived.Test.YtjnlmmjadlidlaaDoorRGL
namespace Go.Proofs.YtjnlmmjadlidlaaDoor.PRec
open Go.RowKit Go.Proofs.YtjnlmmjadlidlaaDoorW.PrintWords Go.Proofs.YtjnlmmjadlidlaaDoorW.PrintLast Go.Proofs.YtjnlmmjadlidlaaDoorW.PrintMore
attribute [local go_sem] max2_int min2_int max_two min_two max_three min_three max_four min_four   -- for this text's walks alone
set_option linter.unusedVariables false
set_option linter.unusedSimpArgs false

/-! ### kauditlaw03_awake: function 30 -/
def kauditlaw03_awake.f (k : Nat)  : Option (Bool) := (record_Format.f k 1307 12345 7 (([(⟨(⟨#[99, 119, 100]⟩ : ByteArray), 2, 0, (⟨#[47, 116, 109, 112]⟩ : ByteArray)⟩ : S34)] : List (S34)))).bind fun bt137 => (if bt137.2 = 0 then (some (bt137.1.toList == ([116, 121, 112, 101, 61, 67, 87, 68, 32, 109, 115, 103, 61, 97, 117, 100, 105, 116, 40, 49, 50, 46, 51, 52, 53, 58, 55, 41, 58, 32, 99, 119, 100, 61, 34, 47, 116, 109, 112, 34] : List UInt8))) else (some false))
theorem kauditlaw03_awake.mono : ∀ k, LeO (kauditlaw03_awake.f k ) (kauditlaw03_awake.f (k + 1) ) := by
  intro  k
  unfold kauditlaw03_awake.f
  repeat' first
      | (with_reducible exact record_Format.mono _ _ _ _ _)
      | (with_reducible exact LeO.refl _)
      | (with_reducible exact LeO.none _)
      | (with_reducible refine LeO.ite ?_ ?_)
      | (with_reducible refine LeO.bind ?_ (fun _ => ?_))
      | exact record_Format.mono _ _ _ _ _
      | exact LeO.none _
      | refine LeO.ite ?_ ?_
      | refine LeO.bind ?_ (fun _ => ?_)
set_option maxHeartbeats 8000000 in
set_option maxRecDepth 100000 in
theorem kauditlaw03_awake.calls (k : Nat)  (r : Bool) (w : World) (hG : GL w) (h : kauditlaw03_awake.f k  = some r) :
    Calls Tryd.prog 30 #[] w fun e w' => e = .returned (.bool r) ∧ Below w.heap.size w w' := by
  have hu34 := Tryd.underlying34
  have hu50 := Tryd.underlying50
  have HB := Aside0.mk (Below.refl w.heap.size w)
  have HGL := Aside0.mk hG
  clear hG
  have H : ((record_Format.f k 1307 12345 7 (([(⟨(⟨#[99, 119, 100]⟩ : ByteArray), 2, 0, (⟨#[47, 116, 109, 112]⟩ : ByteArray)⟩ : S34)] : List (S34)))).bind fun bt137 => (if bt137.2 = 0 then (some (bt137.1.toList == ([116, 121, 112, 101, 61, 67, 87, 68, 32, 109, 115, 103, 61, 97, 117, 100, 105, 116, 40, 49, 50, 46, 51, 52, 53, 58, 55, 41, 58, 32, 99, 119, 100, 61, 34, 47, 116, 109, 112, 34] : List UInt8))) else (some false))) = some r := h
  clear h
  obtain ⟨y134, hy134⟩ : ∃ y_ : List (S34), y_ = (([(⟨(⟨#[99, 119, 100]⟩ : ByteArray), 2, 0, (⟨#[47, 116, 109, 112]⟩ : ByteArray)⟩ : S34)] : List (S34))) := ⟨_, rfl⟩
  replace H : ((record_Format.f k 1307 12345 7 y134).bind fun bt137 => (if bt137.2 = 0 then (some (bt137.1.toList == ([116, 121, 112, 101, 61, 67, 87, 68, 32, 109, 115, 103, 61, 97, 117, 100, 105, 116, 40, 49, 50, 46, 51, 52, 53, 58, 55, 41, 58, 32, 99, 119, 100, 61, 34, 47, 116, 109, 112, 34] : List UInt8))) else (some false))) = some r := by first | (rw [hy134]; with_reducible exact H) | (have H2_ := (Option.bind_some _ _).symm.trans H; rw [hy134]; with_reducible exact H2_) | (have H2_ := (Option.bind_some _ _).symm.trans H; with_reducible exact H2_) | with_reducible exact H | (rw [hy134]; exact H) | exact H
  have Ny134 := Aside0.mk hy134
  clear hy134
  replace H := Option.bind_eq_some_iff.mp H
  obtain ⟨⟨t137, t138⟩, A10, H⟩ := H
  replace H : (if t138 = 0 then (some (t137.toList == ([116, 121, 112, 101, 61, 67, 87, 68, 32, 109, 115, 103, 61, 97, 117, 100, 105, 116, 40, 49, 50, 46, 51, 52, 53, 58, 55, 41, 58, 32, 99, 119, 100, 61, 34, 47, 116, 109, 112, 34] : List UInt8))) else (some false)) = some r := H
  have A1 := Aside0.mk A10
  clear A10
  by_cases c2 : t138 = 0
  · rw [if_pos c2] at H
    have c2b0 : (t138 == 0) = true := beq_iff_eq.mpr c2
    have c2b1 : (t138 != 0) = false := bne_eq_false_iff_eq.mpr c2
    clear c2
    obtain rfl := Option.some.inj H
    go_enter Tryd.func30, Tryd.ntmps30
    go_wp2_with (first | ((with_reducible refine gate_dst (N := 5) rfl ?_); refine Kd.R_lit k34 _ 34 ?hg (N := 5) ?hd (xs := ([(⟨(⟨#[99, 119, 100]⟩ : ByteArray), 2, 0, (⟨#[47, 116, 109, 112]⟩ : ByteArray)⟩ : S34)] : List (S34))) (inner := [.string (⟨#[99, 119, 100]⟩ : ByteArray), .int .i64 2, .int .i64 0, .string (⟨#[47, 116, 109, 112]⟩ : ByteArray)]) (ok := fun _ => True) (okp := fun _ => True) ?hr ?hp (fun _ hk => hk) trivial (Below.refl _ _) (Nat.le_refl _) (by simp) ?_; (case hd => rfl); (case hg => rfl); (case hr => first | (go_simp; done) | (go_simp; rfl)); (case hp => exact (Reps.c4 (show Kd.M k34 _ _ _ (⟨(⟨#[99, 119, 100]⟩ : ByteArray), 2, 0, (⟨#[47, 116, 109, 112]⟩ : ByteArray)⟩ : S34) [.string (⟨#[99, 119, 100]⟩ : ByteArray), .int .i64 2, .int .i64 0, .string (⟨#[47, 116, 109, 112]⟩ : ByteArray)] from (k34_mkM _ _ _ (⟨(⟨#[99, 119, 100]⟩ : ByteArray), 2, 0, (⟨#[47, 116, 109, 112]⟩ : ByteArray)⟩ : S34) )) (Reps.none _ _))); intro v135 w3 ho4 hb hg_ hnew_; clear hg_ hnew_; (first | rw [← Ny134.out] at ho4 | (simp only [Int.reduceToNat] at ho4; rw [← Ny134.out] at ho4)); have n0_ := Aside0.mk (Kd.R_lower ho4 (below_size (by repeat (first | (with_reducible first | exact HB.out | apply below_alloc | apply pw_below_drewN | apply below_drew1) | exact HB.out)))); have n1_ := Aside0.mk (below_step (by repeat (first | (with_reducible first | exact HB.out | apply below_alloc | apply pw_below_drewN | apply below_drew1) | exact HB.out)) hb); clear HB; have HO136 := n0_; have HB := n1_; clear n0_ n1_; clear hb ho4; obtain ⟨Ao5, co5, eo5⟩ := Kd.R_slice HO136.out; subst eo5) | ((with_reducible refine gate_callee (f := 36) rfl ?_); refine goesL_ (some 7) rfl rfl Tryd.func36 (by kernel_rfl) rfl #[.agg #[.int .i64 1307, .int .i64 12345, .int .i64 7, .slice Ao5 y134.length co5]] rfl (by (try simp only [List.map_toArray, List.map_cons, List.map_nil]); first | done | rfl | (simp only [List.length_drop, List.length_take]; rfl)) ?_; (with_reducible refine (record_Format.calls k 1307 12345 7 _ _ y134 t137 t138 _ ?side1 ?side2 ?side3 A1.out).mono ?_); (case side1 => repeat (first | exact (Kd.R_reads' HO136.out).2.2 | (with_reducible refine Kd.C_alloc ?_ _) | (with_reducible refine Kd.C_drewN ?_ _) | (with_reducible refine Kd.C_drew ?_))); (case side2 => exact (Kd.R_reads' HO136.out).2.1); (case side3 => refine GL.below HGL.out ?_; repeat (first | (with_reducible first | exact HB.out | apply below_alloc | apply pw_below_drewN | apply below_drew1) | exact HB.out)); rintro e w6 ⟨rfl, hb⟩; refine ⟨_, rfl, ?_⟩; have n0_ := Aside0.mk (Kd.R_below (by (with_reducible repeat (first | apply Kd.R_alloc | apply Kd.R_drewN | apply Kd.R_drew)); exact HO136.out) hb); have n1_ := Aside0.mk (below_step (by repeat (first | (with_reducible first | exact HB.out | apply below_alloc | apply pw_below_drewN | apply below_drew1) | exact HB.out)) hb); clear HO136; clear HB; have HO136 := n0_; have HB := n1_; clear n0_ n1_; (try clear hb); (try clear hb2); (try clear hk); (try clear hi)))
    go_ret
    exact ⟨by first | rfl | (simp [errW_none, errW_some] <;> rfl) | (simp [*, errW_none, errW_some] <;> rfl) | (simp only [isEmpty_ne_, isEmpty_eq_]; rfl) | (simp [*, isEmpty_ne_, isEmpty_eq_]; done), by repeat (first | (with_reducible first | exact HB.out | apply below_alloc | apply pw_below_drewN | apply below_drew1) | exact HB.out)⟩
  · rw [if_neg c2] at H
    have c2b0 : (t138 == 0) = false := beq_eq_false_iff_ne.mpr c2
    have c2b1 : (t138 != 0) = true := bne_iff_ne.mpr c2
    obtain rfl := Option.some.inj H
    go_enter Tryd.func30, Tryd.ntmps30
    go_wp2_with (first | ((with_reducible refine gate_dst (N := 5) rfl ?_); refine Kd.R_lit k34 _ 34 ?hg (N := 5) ?hd (xs := ([(⟨(⟨#[99, 119, 100]⟩ : ByteArray), 2, 0, (⟨#[47, 116, 109, 112]⟩ : ByteArray)⟩ : S34)] : List (S34))) (inner := [.string (⟨#[99, 119, 100]⟩ : ByteArray), .int .i64 2, .int .i64 0, .string (⟨#[47, 116, 109, 112]⟩ : ByteArray)]) (ok := fun _ => True) (okp := fun _ => True) ?hr ?hp (fun _ hk => hk) trivial (Below.refl _ _) (Nat.le_refl _) (by simp) ?_; (case hd => rfl); (case hg => rfl); (case hr => first | (go_simp; done) | (go_simp; rfl)); (case hp => exact (Reps.c4 (show Kd.M k34 _ _ _ (⟨(⟨#[99, 119, 100]⟩ : ByteArray), 2, 0, (⟨#[47, 116, 109, 112]⟩ : ByteArray)⟩ : S34) [.string (⟨#[99, 119, 100]⟩ : ByteArray), .int .i64 2, .int .i64 0, .string (⟨#[47, 116, 109, 112]⟩ : ByteArray)] from (k34_mkM _ _ _ (⟨(⟨#[99, 119, 100]⟩ : ByteArray), 2, 0, (⟨#[47, 116, 109, 112]⟩ : ByteArray)⟩ : S34) )) (Reps.none _ _))); intro v135 w7 ho8 hb hg_ hnew_; clear hg_ hnew_; (first | rw [← Ny134.out] at ho8 | (simp only [Int.reduceToNat] at ho8; rw [← Ny134.out] at ho8)); have n0_ := Aside0.mk (Kd.R_lower ho8 (below_size (by repeat (first | (with_reducible first | exact HB.out | apply below_alloc | apply pw_below_drewN | apply below_drew1) | exact HB.out)))); have n1_ := Aside0.mk (below_step (by repeat (first | (with_reducible first | exact HB.out | apply below_alloc | apply pw_below_drewN | apply below_drew1) | exact HB.out)) hb); clear HB; have HO136 := n0_; have HB := n1_; clear n0_ n1_; clear hb ho8; obtain ⟨Ao9, co9, eo9⟩ := Kd.R_slice HO136.out; subst eo9) | ((with_reducible refine gate_callee (f := 36) rfl ?_); refine goesL_ (some 7) rfl rfl Tryd.func36 (by kernel_rfl) rfl #[.agg #[.int .i64 1307, .int .i64 12345, .int .i64 7, .slice Ao9 y134.length co9]] rfl (by (try simp only [List.map_toArray, List.map_cons, List.map_nil]); first | done | rfl | (simp only [List.length_drop, List.length_take]; rfl)) ?_; (with_reducible refine (record_Format.calls k 1307 12345 7 _ _ y134 t137 t138 _ ?side1 ?side2 ?side3 A1.out).mono ?_); (case side1 => repeat (first | exact (Kd.R_reads' HO136.out).2.2 | (with_reducible refine Kd.C_alloc ?_ _) | (with_reducible refine Kd.C_drewN ?_ _) | (with_reducible refine Kd.C_drew ?_))); (case side2 => exact (Kd.R_reads' HO136.out).2.1); (case side3 => refine GL.below HGL.out ?_; repeat (first | (with_reducible first | exact HB.out | apply below_alloc | apply pw_below_drewN | apply below_drew1) | exact HB.out)); rintro e w10 ⟨rfl, hb⟩; refine ⟨_, rfl, ?_⟩; have n0_ := Aside0.mk (Kd.R_below (by (with_reducible repeat (first | apply Kd.R_alloc | apply Kd.R_drewN | apply Kd.R_drew)); exact HO136.out) hb); have n1_ := Aside0.mk (below_step (by repeat (first | (with_reducible first | exact HB.out | apply below_alloc | apply pw_below_drewN | apply below_drew1) | exact HB.out)) hb); clear HO136; clear HB; have HO136 := n0_; have HB := n1_; clear n0_ n1_; (try clear hb); (try clear hb2); (try clear hk); (try clear hi)))
    go_ret
    exact ⟨by first | rfl | (simp [errW_none, errW_some] <;> rfl) | (simp [*, errW_none, errW_some] <;> rfl) | (simp only [isEmpty_ne_, isEmpty_eq_]; rfl) | (simp [*, isEmpty_ne_, isEmpty_eq_]; done), by repeat (first | (with_reducible first | exact HB.out | apply below_alloc | apply pw_below_drewN | apply below_drew1) | exact HB.out)⟩

end Go.Proofs.YtjnlmmjadlidlaaDoor.PRec
