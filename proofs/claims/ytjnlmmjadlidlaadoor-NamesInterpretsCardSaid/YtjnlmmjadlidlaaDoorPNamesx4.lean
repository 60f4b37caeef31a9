-- Written by a program of mine (wip/kprint.sh): a plain Lean function for each Go function, and the proof that the Go code comes to its answers. Not trusted: Lean checks it.
import Derived.Test.YtjnlmmjadlidlaaDoorPNamesx0
import Derived.Test.YtjnlmmjadlidlaaDoorPNamesx3
import Derived.Test.YtjnlmmjadlidlaaDoorNE2
import Derived.Test.YtjnlmmjadlidlaaDoorNE3
import Derived.Test.YtjnlmmjadlidlaaDoorNE4
import Derived.Test.YtjnlmmjadlidlaaDoorNE5
import Derived.Test.YtjnlmmjadlidlaaDoorNGL
namespace Go.Proofs.YtjnlmmjadlidlaaDoor.PNames
open Go.RowKit Go.Proofs.YtjnlmmjadlidlaaDoorW.PrintWords Go.Proofs.YtjnlmmjadlidlaaDoorW.PrintLast Go.Proofs.YtjnlmmjadlidlaaDoorW.PrintMore
attribute [local go_sem] max2_int min2_int max_two min_two max_three min_three max_four min_four   -- for this text's walks alone
set_option linter.unusedVariables false
set_option linter.unusedSimpArgs false

/-! ### names_Interpret: function 23 -/
mutual
def names_Interpret.j0 : Nat → List (S47) → Int → ByteArray → ByteArray → Bool → ByteArray → Int → Int → ByteArray → Option (ByteArray)
  | 0, _, _, _, _, _, _, _, _, _ => none
  | k + 1, x0, x1, x7, x14, x15, x144000, x144001, x144002, x144003 => if x15 = true then (if x144002 = 4294967295 then (some (⟨#[117, 110, 115, 101, 116]⟩ : ByteArray)) else ((names_Name.f x0 1 x144002 x1).bind fun bt145 => (if bt145.1.toList = ([] : List UInt8) then ((names_Plain.f x144000 x144001 x144002 x144003).bind fun t147 => (some t147)) else (some bt145.1)))) else (if x14.toList = ([103, 105, 100] : List UInt8) then (names_Interpret.j1 k x0 x1 x7 x14 (x14.toList == ([103, 105, 100] : List UInt8)) x144000 x144001 x144002 x144003) else (if x14.toList = ([101, 103, 105, 100] : List UInt8) then (names_Interpret.j1 k x0 x1 x7 x14 (x14.toList == ([101, 103, 105, 100] : List UInt8)) x144000 x144001 x144002 x144003) else (names_Interpret.j1 k x0 x1 x7 x14 (x14.toList == ([111, 103, 105, 100] : List UInt8)) x144000 x144001 x144002 x144003)))
def names_Interpret.j1 : Nat → List (S47) → Int → ByteArray → ByteArray → Bool → ByteArray → Int → Int → ByteArray → Option (ByteArray)
  | 0, _, _, _, _, _, _, _, _, _ => none
  | k + 1, x0, x1, x7, x14, x31, x144000, x144001, x144002, x144003 => if x31 = true then ((names_Name.f x0 2 x144002 x1).bind fun bt148 => (if bt148.1.toList = ([] : List UInt8) then ((names_Plain.f x144000 x144001 x144002 x144003).bind fun t150 => (some t150)) else (some bt148.1))) else (if x14.toList = ([115, 101, 115] : List UInt8) then (if x144002 = 4294967295 then (some (⟨#[117, 110, 115, 101, 116]⟩ : ByteArray)) else (if x7.toList = ([] : List UInt8) then ((names_Plain.f x144000 x144001 x144002 x144003).bind fun t151 => (some t151)) else (some x7))) else (if x14.toList = ([101, 120, 105, 116] : List UInt8) then (if x144002 < 0 then (names_Interpret.j2 k x7 (decide (x144002 > (-9223372036854775808))) x144000 x144001 x144002 x144003) else (names_Interpret.j2 k x7 false x144000 x144001 x144002 x144003)) else (if x14.toList = ([109, 111, 100, 101] : List UInt8) then ((access_Format.f x144002).bind fun t156 => (if t156.toList = ([] : List UInt8) then ((names_Plain.f x144000 x144001 x144002 x144003).bind fun t157 => (some t157)) else (some t156))) else (if x14.toList = ([112, 101, 114, 109] : List UInt8) then ((names_perms.f x144002).bind fun t158 => (if t158.toList = ([] : List UInt8) then ((names_Plain.f x144000 x144001 x144002 x144003).bind fun t159 => (some t159)) else (some t158))) else (if x7.toList = ([] : List UInt8) then ((names_Plain.f x144000 x144001 x144002 x144003).bind fun t160 => (some t160)) else (some x7))))))
def names_Interpret.j2 : Nat → ByteArray → Bool → ByteArray → Int → Int → ByteArray → Option (ByteArray)
  | 0, _, _, _, _, _, _ => none
  | k + 1, x7, x57, x144000, x144001, x144002, x144003 => if x57 = true then ((names_ErrorName.f (wrap64 (-x144002))).bind fun t152 => (if t152.toList = ([] : List UInt8) then ((names_Plain.f x144000 x144001 x144002 x144003).bind fun t153 => (some t153)) else (if 1 + t152.size ≤ 9223372036854775807 then (if ((⟨#[45]⟩ : ByteArray) ++ t152).toList = ([] : List UInt8) then ((names_Plain.f x144000 x144001 x144002 x144003).bind fun t154 => (some t154)) else (some ((⟨#[45]⟩ : ByteArray) ++ t152))) else (none)))) else (if x7.toList = ([] : List UInt8) then ((names_Plain.f x144000 x144001 x144002 x144003).bind fun t155 => (some t155)) else (some x7))
end
def names_Interpret.f (k : Nat) (l0 : List (S47)) (a1 : Int) (a2_0 : ByteArray) (a2_1 : Int) (a2_2 : Int) (a2_3 : ByteArray) : Option (ByteArray) := if a2_1 = 1 then (if a2_0.toList = ([117, 105, 100] : List UInt8) then (names_Interpret.j0 k l0 a1 (⟨#[]⟩ : ByteArray) a2_0 (a2_0.toList == ([117, 105, 100] : List UInt8)) a2_0 a2_1 a2_2 a2_3) else (if a2_0.toList = ([101, 117, 105, 100] : List UInt8) then (names_Interpret.j0 k l0 a1 (⟨#[]⟩ : ByteArray) a2_0 (a2_0.toList == ([101, 117, 105, 100] : List UInt8)) a2_0 a2_1 a2_2 a2_3) else (if a2_0.toList = ([97, 117, 105, 100] : List UInt8) then (names_Interpret.j0 k l0 a1 (⟨#[]⟩ : ByteArray) a2_0 (a2_0.toList == ([97, 117, 105, 100] : List UInt8)) a2_0 a2_1 a2_2 a2_3) else (names_Interpret.j0 k l0 a1 (⟨#[]⟩ : ByteArray) a2_0 (a2_0.toList == ([111, 117, 105, 100] : List UInt8)) a2_0 a2_1 a2_2 a2_3)))) else ((names_Plain.f a2_0 a2_1 a2_2 a2_3).bind fun t144 => (some t144))
theorem names_Interpret.mono_l : ∀ k, (∀ y0 y1 y2 y3 y4 y5 y6 y7 y8, LeO (names_Interpret.j0 k y0 y1 y2 y3 y4 y5 y6 y7 y8) (names_Interpret.j0 (k + 1) y0 y1 y2 y3 y4 y5 y6 y7 y8)) ∧ (∀ y0 y1 y2 y3 y4 y5 y6 y7 y8, LeO (names_Interpret.j1 k y0 y1 y2 y3 y4 y5 y6 y7 y8) (names_Interpret.j1 (k + 1) y0 y1 y2 y3 y4 y5 y6 y7 y8)) ∧ (∀ y0 y1 y2 y3 y4 y5, LeO (names_Interpret.j2 k y0 y1 y2 y3 y4 y5) (names_Interpret.j2 (k + 1) y0 y1 y2 y3 y4 y5))
  | 0 => ⟨fun _ _ _ _ _ _ _ _ _ r h => by simp [names_Interpret.j0] at h, fun _ _ _ _ _ _ _ _ _ r h => by simp [names_Interpret.j1] at h, fun _ _ _ _ _ _ r h => by simp [names_Interpret.j2] at h⟩
  | k + 1 => by
    obtain ⟨ih0, ih1, ih2⟩ := names_Interpret.mono_l k
    refine ⟨?_, ?_, ?_⟩
    · intro y0 y1 y2 y3 y4 y5 y6 y7 y8
      unfold names_Interpret.j0
      repeat' first
      | (with_reducible exact ih0 _ _ _ _ _ _ _ _ _)
      | (with_reducible exact ih1 _ _ _ _ _ _ _ _ _)
      | (with_reducible exact ih2 _ _ _ _ _ _)
      | (with_reducible exact LeO.refl _)
      | (with_reducible exact LeO.none _)
      | (with_reducible refine LeO.ite ?_ ?_)
      | (with_reducible refine LeO.bind ?_ (fun _ => ?_))
      | exact ih0 _ _ _ _ _ _ _ _ _
      | exact ih1 _ _ _ _ _ _ _ _ _
      | exact ih2 _ _ _ _ _ _
      | exact LeO.none _
      | refine LeO.ite ?_ ?_
      | refine LeO.bind ?_ (fun _ => ?_)
    · intro y0 y1 y2 y3 y4 y5 y6 y7 y8
      unfold names_Interpret.j1
      repeat' first
      | (with_reducible exact ih0 _ _ _ _ _ _ _ _ _)
      | (with_reducible exact ih1 _ _ _ _ _ _ _ _ _)
      | (with_reducible exact ih2 _ _ _ _ _ _)
      | (with_reducible exact LeO.refl _)
      | (with_reducible exact LeO.none _)
      | (with_reducible refine LeO.ite ?_ ?_)
      | (with_reducible refine LeO.bind ?_ (fun _ => ?_))
      | exact ih0 _ _ _ _ _ _ _ _ _
      | exact ih1 _ _ _ _ _ _ _ _ _
      | exact ih2 _ _ _ _ _ _
      | exact LeO.none _
      | refine LeO.ite ?_ ?_
      | refine LeO.bind ?_ (fun _ => ?_)
    · intro y0 y1 y2 y3 y4 y5
      unfold names_Interpret.j2
      repeat' first
      | (with_reducible exact ih0 _ _ _ _ _ _ _ _ _)
      | (with_reducible exact ih1 _ _ _ _ _ _ _ _ _)
      | (with_reducible exact ih2 _ _ _ _ _ _)
      | (with_reducible exact LeO.refl _)
      | (with_reducible exact LeO.none _)
      | (with_reducible refine LeO.ite ?_ ?_)
      | (with_reducible refine LeO.bind ?_ (fun _ => ?_))
      | exact ih0 _ _ _ _ _ _ _ _ _
      | exact ih1 _ _ _ _ _ _ _ _ _
      | exact ih2 _ _ _ _ _ _
      | exact LeO.none _
      | refine LeO.ite ?_ ?_
      | refine LeO.bind ?_ (fun _ => ?_)
theorem names_Interpret.mono : ∀ a0 a1 a2 a3 a4 a5 k, LeO (names_Interpret.f k a0 a1 a2 a3 a4 a5) (names_Interpret.f (k + 1) a0 a1 a2 a3 a4 a5) := by
  intro a0 a1 a2 a3 a4 a5 k
  obtain ⟨ih0, ih1, ih2⟩ := names_Interpret.mono_l k
  unfold names_Interpret.f
  repeat' first
      | (with_reducible exact ih0 _ _ _ _ _ _ _ _ _)
      | (with_reducible exact ih1 _ _ _ _ _ _ _ _ _)
      | (with_reducible exact ih2 _ _ _ _ _ _)
      | (with_reducible exact LeO.refl _)
      | (with_reducible exact LeO.none _)
      | (with_reducible refine LeO.ite ?_ ?_)
      | (with_reducible refine LeO.bind ?_ (fun _ => ?_))
      | exact ih0 _ _ _ _ _ _ _ _ _
      | exact ih1 _ _ _ _ _ _ _ _ _
      | exact ih2 _ _ _ _ _ _
      | exact LeO.none _
      | refine LeO.ite ?_ ?_
      | refine LeO.bind ?_ (fun _ => ?_)
set_option maxHeartbeats 8000000 in
set_option maxRecDepth 100000 in
theorem names_Interpret.calls (k : Nat) (A0 : Option Addr) (c0 : Nat) (l0 : List (S47)) (a1 : Int) (a2_0 : ByteArray) (a2_1 : Int) (a2_2 : Int) (a2_3 : ByteArray) (r : ByteArray) (w : World) (hr0 : Kd.C k47 w A0 l0.length l0) (hc0 : l0.length ≤ c0) (hG : GL w) (h : names_Interpret.f k l0 a1 a2_0 a2_1 a2_2 a2_3 = some r) :
    Calls Tryd.prog 23 #[.slice A0 l0.length c0, .int .i64 a1, .agg #[.string a2_0, .int .i64 a2_1, .int .i64 a2_2, .string a2_3]] w fun e w' => e = .returned (.string r) ∧ Below w.heap.size w w' := by
  have hu34 := Tryd.underlying34
  have HR0 := Aside0.mk hr0
  have HC0 := Aside0.mk hc0
  clear hr0 hc0
  have HB := Aside0.mk (Below.refl w.heap.size w)
  have HGL := Aside0.mk hG
  clear hG
  have H : (if a2_1 = 1 then (if a2_0.toList = ([117, 105, 100] : List UInt8) then (names_Interpret.j0 k l0 a1 (⟨#[]⟩ : ByteArray) a2_0 (a2_0.toList == ([117, 105, 100] : List UInt8)) a2_0 a2_1 a2_2 a2_3) else (if a2_0.toList = ([101, 117, 105, 100] : List UInt8) then (names_Interpret.j0 k l0 a1 (⟨#[]⟩ : ByteArray) a2_0 (a2_0.toList == ([101, 117, 105, 100] : List UInt8)) a2_0 a2_1 a2_2 a2_3) else (if a2_0.toList = ([97, 117, 105, 100] : List UInt8) then (names_Interpret.j0 k l0 a1 (⟨#[]⟩ : ByteArray) a2_0 (a2_0.toList == ([97, 117, 105, 100] : List UInt8)) a2_0 a2_1 a2_2 a2_3) else (names_Interpret.j0 k l0 a1 (⟨#[]⟩ : ByteArray) a2_0 (a2_0.toList == ([111, 117, 105, 100] : List UInt8)) a2_0 a2_1 a2_2 a2_3)))) else ((names_Plain.f a2_0 a2_1 a2_2 a2_3).bind fun t144 => (some t144))) = some r := h
  clear h
  by_cases c4 : a2_1 = 1
  · rw [if_pos c4] at H
    have c4b0 : (a2_1 == 1) = true := beq_iff_eq.mpr c4
    have c4b1 : (a2_1 != 1) = false := bne_eq_false_iff_eq.mpr c4
    clear c4
    have HC5 := Aside0.mk H
    clear H
    go_enter Tryd.func23, Tryd.ntmps23
    go_upto_if 15 with (first | ((with_reducible refine gate_dst (N := 5) rfl ?_); refine box_event ?hg (N := 5) ?hd (cs := #[.string a2_0, .int .i64 a2_1, .int .i64 a2_2, .string a2_3]) (t := 34) ?hr ?_; (case hd => rfl); (case hg => rfl); (case hr => first | (go_simp; done) | (go_simp; rfl)); intro gb143 hg w6 hbox hb; have n0_ := Aside0.mk (below_step (by repeat (first | (with_reducible first | exact HB.out | apply below_alloc | apply pw_below_drewN | apply below_drew1) | exact HB.out)) hb); have n1_ := Aside0.mk (hbox); have n2_ := Aside0.mk ((by rw [hg]; exact (below_size (by repeat (first | (with_reducible first | exact HB.out | apply below_alloc | apply pw_below_drewN | apply below_drew1) | exact HB.out))) : w.heap.size ≤ gb143)); have n3_ := Aside0.mk ((by rw [hg]; exact (below_size (by repeat (first | (with_reducible first | exact HB.out | apply below_alloc | apply pw_below_drewN | apply below_drew1) | exact HB.out))) : w.heap.size ≤ gb143)); clear HB; have HB := n0_; have BK143 := n1_; have GW143 := n2_; have GE143 := n3_; clear n0_ n1_ n2_ n3_; clear hb hbox hg; have hcz7_0 : w6.cell? ⟨gb143, 0, none⟩ = some (.string a2_0) := (blk_cell BK143.out 0).trans rfl; have hcz7_1 : w6.cell? ⟨gb143, 1, none⟩ = some (.int .i64 a2_1) := (blk_cell BK143.out 1).trans rfl; have hcz7_2 : w6.cell? ⟨gb143, 2, none⟩ = some (.int .i64 a2_2) := (blk_cell BK143.out 2).trans rfl; have hcz7_3 : w6.cell? ⟨gb143, 3, none⟩ = some (.string a2_3) := (blk_cell BK143.out 3).trans rfl; have hfz7_0 := blk_frozen BK143.out 0; have hfz7_1 := blk_frozen BK143.out 1; have hfz7_2 := blk_frozen BK143.out 2; have hfz7_3 := blk_frozen BK143.out 3))
    (try simp only [Act.put, List.setIfInBounds_toArray, List.set_cons_zero, List.set_cons_succ])
    go_cut [15] (fun v15 wc => ∃ (kq : Nat) (x15_4 : Bool), v15 = .bool x15_4 ∧ Aside0 (names_Interpret.j0 kq l0 a1 (⟨#[]⟩ : ByteArray) a2_0 x15_4 a2_0 a2_1 a2_2 a2_3 = some r) ∧ Aside0 (kq ≤ k) ∧ Aside0 (wc.heap[gb143]? = some (.cells #[.string a2_0, .int .i64 a2_1, .int .i64 a2_2, .string a2_3] 34 (0, 0))) ∧ Aside0 (Below w.heap.size w wc))
    case first =>
      have H := HC5.out
      clear HC5
      by_cases c8 : a2_0.toList = ([117, 105, 100] : List UInt8)
      · rw [if_pos c8] at H
        have c8b0 : (a2_0.toList == ([117, 105, 100] : List UInt8)) = true := beq_iff_eq.mpr c8
        have c8b1 : (a2_0.toList != ([117, 105, 100] : List UInt8)) = false := bne_eq_false_iff_eq.mpr c8
        clear c8
        (first | rw [c8b0] | (simp only [i64_w, i32_w]; rw [c8b0]) | skip)
        have H' := Aside0.mk H
        clear H
        go_wp2
        go_meet
        case rel => exact ⟨_, ((a2_0.toList == ([117, 105, 100] : List UInt8))), (by first | rfl | (simp; done) | (simp [*]; done)), H', ⟨by first | omega | exact Nat.le_refl _⟩, ⟨by (with_reducible repeat (first | refine blk_drewN ?_ _ | refine blk_drew ?_ | refine blk_alloc ?_ _)); exact BK143.out⟩, ⟨by repeat (first | (with_reducible first | exact HB.out | apply below_alloc | apply pw_below_drewN | apply below_drew1 | refine below_set ?_ GE143.out) | exact HB.out)⟩⟩
      · rw [if_neg c8] at H
        have c8b0 : (a2_0.toList == ([117, 105, 100] : List UInt8)) = false := beq_eq_false_iff_ne.mpr c8
        have c8b1 : (a2_0.toList != ([117, 105, 100] : List UInt8)) = true := bne_iff_ne.mpr c8
        (first | rw [c8b0] | (simp only [i64_w, i32_w]; rw [c8b0]) | skip)
        by_cases c9 : a2_0.toList = ([101, 117, 105, 100] : List UInt8)
        · rw [if_pos c9] at H
          have c9b0 : (a2_0.toList == ([101, 117, 105, 100] : List UInt8)) = true := beq_iff_eq.mpr c9
          have c9b1 : (a2_0.toList != ([101, 117, 105, 100] : List UInt8)) = false := bne_eq_false_iff_eq.mpr c9
          clear c9
          have H' := Aside0.mk H
          clear H
          go_wp2
          go_meet
          case rel => exact ⟨_, ((a2_0.toList == ([101, 117, 105, 100] : List UInt8))), (by first | rfl | (simp; done) | (simp [*]; done)), H', ⟨by first | omega | exact Nat.le_refl _⟩, ⟨by (with_reducible repeat (first | refine blk_drewN ?_ _ | refine blk_drew ?_ | refine blk_alloc ?_ _)); exact BK143.out⟩, ⟨by repeat (first | (with_reducible first | exact HB.out | apply below_alloc | apply pw_below_drewN | apply below_drew1 | refine below_set ?_ GE143.out) | exact HB.out)⟩⟩
        · rw [if_neg c9] at H
          have c9b0 : (a2_0.toList == ([101, 117, 105, 100] : List UInt8)) = false := beq_eq_false_iff_ne.mpr c9
          have c9b1 : (a2_0.toList != ([101, 117, 105, 100] : List UInt8)) = true := bne_iff_ne.mpr c9
          by_cases c10 : a2_0.toList = ([97, 117, 105, 100] : List UInt8)
          · rw [if_pos c10] at H
            have c10b0 : (a2_0.toList == ([97, 117, 105, 100] : List UInt8)) = true := beq_iff_eq.mpr c10
            have c10b1 : (a2_0.toList != ([97, 117, 105, 100] : List UInt8)) = false := bne_eq_false_iff_eq.mpr c10
            clear c10
            have H' := Aside0.mk H
            clear H
            go_wp2
            go_meet
            case rel => exact ⟨_, ((a2_0.toList == ([97, 117, 105, 100] : List UInt8))), (by first | rfl | (simp; done) | (simp [*]; done)), H', ⟨by first | omega | exact Nat.le_refl _⟩, ⟨by (with_reducible repeat (first | refine blk_drewN ?_ _ | refine blk_drew ?_ | refine blk_alloc ?_ _)); exact BK143.out⟩, ⟨by repeat (first | (with_reducible first | exact HB.out | apply below_alloc | apply pw_below_drewN | apply below_drew1 | refine below_set ?_ GE143.out) | exact HB.out)⟩⟩
          · rw [if_neg c10] at H
            have c10b0 : (a2_0.toList == ([97, 117, 105, 100] : List UInt8)) = false := beq_eq_false_iff_ne.mpr c10
            have c10b1 : (a2_0.toList != ([97, 117, 105, 100] : List UInt8)) = true := bne_iff_ne.mpr c10
            have H' := Aside0.mk H
            clear H
            go_wp2
            go_meet
            case rel => exact ⟨_, ((a2_0.toList == ([111, 117, 105, 100] : List UInt8))), (by first | rfl | (simp; done) | (simp [*]; done)), H', ⟨by first | omega | exact Nat.le_refl _⟩, ⟨by (with_reducible repeat (first | refine blk_drewN ?_ _ | refine blk_drew ?_ | refine blk_alloc ?_ _)); exact BK143.out⟩, ⟨by repeat (first | (with_reducible first | exact HB.out | apply below_alloc | apply pw_below_drewN | apply below_drew1 | refine below_set ?_ GE143.out) | exact HB.out)⟩⟩
    case rest =>
      clear HC5
      try clear c1
      try clear c2
      try clear p2
      try clear c4
      try clear c4b0
      try clear c4b1
      try clear c8
      try clear c8b0
      try clear c8b1
      try clear c9
      try clear c9b0
      try clear c9b1
      try clear c10
      try clear c10b0
      try clear c10b1
      try clear hcz7_0
      try clear hcz7_1
      try clear hcz7_2
      try clear hcz7_3
      try clear hfz7_0
      try clear hfz7_1
      try clear hfz7_2
      try clear hfz7_3
      obtain ⟨kq, x15_4, rfl, HA, HJ4, BK143, HB⟩ := hcut
      cases kq with
      | zero => exact absurd HA.out (by simp [names_Interpret.j0])
      | succ kj4 =>
        have H := HA.out
        clear HA
        simp only [names_Interpret.j0] at H
        by_cases c11 : x15_4 = true
        · subst c11
          have H1 : (if a2_2 = 4294967295 then (some (⟨#[117, 110, 115, 101, 116]⟩ : ByteArray)) else ((names_Name.f l0 1 a2_2 a1).bind fun bt145 => (if bt145.1.toList = ([] : List UInt8) then ((names_Plain.f a2_0 a2_1 a2_2 a2_3).bind fun t147 => (some t147)) else (some bt145.1)))) = some r := by rw [if_pos rfl] at H; exact H
          clear H
          have H := H1
          clear H1
          by_cases c12 : a2_2 = 4294967295
          · rw [if_pos c12] at H
            have c12b0 : (a2_2 == 4294967295) = true := beq_iff_eq.mpr c12
            have c12b1 : (a2_2 != 4294967295) = false := bne_eq_false_iff_eq.mpr c12
            clear c12
            obtain rfl := Option.some.inj H
            have hcz13_0 : wc.cell? ⟨gb143, 0, none⟩ = some (.string a2_0) := (blk_cell BK143.out 0).trans rfl
            have hcz13_1 : wc.cell? ⟨gb143, 1, none⟩ = some (.int .i64 a2_1) := (blk_cell BK143.out 1).trans rfl
            have hcz13_2 : wc.cell? ⟨gb143, 2, none⟩ = some (.int .i64 a2_2) := (blk_cell BK143.out 2).trans rfl
            have hcz13_3 : wc.cell? ⟨gb143, 3, none⟩ = some (.string a2_3) := (blk_cell BK143.out 3).trans rfl
            have hfz13_0 := blk_frozen BK143.out 0
            have hfz13_1 := blk_frozen BK143.out 1
            have hfz13_2 := blk_frozen BK143.out 2
            have hfz13_3 := blk_frozen BK143.out 3
            go_wp2
            go_ret
            exact ⟨by first | rfl | (simp [errW_none, errW_some] <;> rfl) | (simp [*, errW_none, errW_some] <;> rfl) | (simp only [isEmpty_ne_, isEmpty_eq_]; rfl) | (simp [*, isEmpty_ne_, isEmpty_eq_]; done), by repeat (first | (with_reducible first | exact HB.out | apply below_alloc | apply pw_below_drewN | apply below_drew1 | refine below_set ?_ GE143.out) | exact HB.out)⟩
          · rw [if_neg c12] at H
            have c12b0 : (a2_2 == 4294967295) = false := beq_eq_false_iff_ne.mpr c12
            have c12b1 : (a2_2 != 4294967295) = true := bne_iff_ne.mpr c12
            replace H := Option.bind_eq_some_iff.mp H
            obtain ⟨⟨t145, t146⟩, A140, H⟩ := H
            replace H : (if t145.toList = ([] : List UInt8) then ((names_Plain.f a2_0 a2_1 a2_2 a2_3).bind fun t147 => (some t147)) else (some t145)) = some r := H
            have A14 := Aside0.mk A140
            clear A140
            by_cases c15 : t145.toList = ([] : List UInt8)
            · rw [if_pos c15] at H
              have c15b0 : (t145.toList == ([] : List UInt8)) = true := beq_iff_eq.mpr c15
              have c15b1 : (t145.toList != ([] : List UInt8)) = false := bne_eq_false_iff_eq.mpr c15
              clear c15
              replace H := Option.bind_eq_some_iff.mp H
              obtain ⟨t147, A160, H⟩ := H
              replace H : (some t147) = some r := H
              have A16 := Aside0.mk A160
              clear A160
              obtain rfl := Option.some.inj H
              have hcz17_0 : wc.cell? ⟨gb143, 0, none⟩ = some (.string a2_0) := (blk_cell BK143.out 0).trans rfl
              have hcz17_1 : wc.cell? ⟨gb143, 1, none⟩ = some (.int .i64 a2_1) := (blk_cell BK143.out 1).trans rfl
              have hcz17_2 : wc.cell? ⟨gb143, 2, none⟩ = some (.int .i64 a2_2) := (blk_cell BK143.out 2).trans rfl
              have hcz17_3 : wc.cell? ⟨gb143, 3, none⟩ = some (.string a2_3) := (blk_cell BK143.out 3).trans rfl
              have hfz17_0 := blk_frozen BK143.out 0
              have hfz17_1 := blk_frozen BK143.out 1
              have hfz17_2 := blk_frozen BK143.out 2
              have hfz17_3 := blk_frozen BK143.out 3
              go_wp2_with (first | ((with_reducible refine gate_callee (f := 65) rfl ?_); refine goesL_ (some 28) rfl rfl Tryd.func65 (by kernel_rfl) rfl #[.slice A0 l0.length c0, .int .i64 1, .int .i64 a2_2, .int .i64 a1] rfl (by (try simp only [List.map_toArray, List.map_cons, List.map_nil]); first | done | rfl | (simp only [List.length_drop, List.length_take]; rfl)) ?_; (with_reducible refine (names_Name.calls _ _ l0 1 a2_2 a1 t145 t146 _ ?side1 ?side2 A14.out).mono ?_); (case side1 => repeat (first | exact (Kd.C_below HR0.out HB.out) | (with_reducible refine Kd.C_alloc ?_ _) | (with_reducible refine Kd.C_drewN ?_ _) | (with_reducible refine Kd.C_drew ?_))); (case side2 => exact HC0.out); rintro e w18 ⟨rfl, hb⟩; refine ⟨_, rfl, ?_⟩; have n0_ := Aside0.mk (blk_below (g := gb143) (o := .cells #[.string a2_0, .int .i64 a2_1, .int .i64 a2_2, .string a2_3] 34 (0, 0)) (by (with_reducible repeat (first | refine blk_drewN ?_ _ | refine blk_drew ?_ | refine blk_alloc ?_ _)); exact BK143.out) hb); have n1_ := Aside0.mk (below_step (by repeat (first | (with_reducible first | exact HB.out | apply below_alloc | apply pw_below_drewN | apply below_drew1 | refine below_set ?_ GE143.out) | exact HB.out)) hb); clear BK143; clear HB; have BK143 := n0_; have HB := n1_; clear n0_ n1_; (try clear hb); (try clear hb2); (try clear hk); (try clear hi); have hcz19_0 : w18.cell? ⟨gb143, 0, none⟩ = some (.string a2_0) := (blk_cell BK143.out 0).trans rfl; have hcz19_1 : w18.cell? ⟨gb143, 1, none⟩ = some (.int .i64 a2_1) := (blk_cell BK143.out 1).trans rfl; have hcz19_2 : w18.cell? ⟨gb143, 2, none⟩ = some (.int .i64 a2_2) := (blk_cell BK143.out 2).trans rfl; have hcz19_3 : w18.cell? ⟨gb143, 3, none⟩ = some (.string a2_3) := (blk_cell BK143.out 3).trans rfl; have hfz19_0 := blk_frozen BK143.out 0; have hfz19_1 := blk_frozen BK143.out 1; have hfz19_2 := blk_frozen BK143.out 2; have hfz19_3 := blk_frozen BK143.out 3) | ((with_reducible refine gate_callee (f := 25) rfl ?_); refine goesL_ (some 79) rfl rfl Tryd.func25 (by kernel_rfl) rfl #[.agg #[.string a2_0, .int .i64 a2_1, .int .i64 a2_2, .string a2_3]] rfl (by (try simp only [List.map_toArray, List.map_cons, List.map_nil]); first | done | rfl | (simp only [List.length_drop, List.length_take]; rfl)) ?_; (with_reducible refine (names_Plain.calls a2_0 a2_1 a2_2 a2_3 t147 _ ?side1 A16.out).mono ?_); (case side1 => refine GL.below HGL.out ?_; repeat (first | (with_reducible first | exact HB.out | apply below_alloc | apply pw_below_drewN | apply below_drew1 | refine below_set ?_ GE143.out) | exact HB.out)); rintro e w20 ⟨rfl, hb⟩; refine ⟨_, rfl, ?_⟩; have n0_ := Aside0.mk (blk_below (g := gb143) (o := .cells #[.string a2_0, .int .i64 a2_1, .int .i64 a2_2, .string a2_3] 34 (0, 0)) (by (with_reducible repeat (first | refine blk_drewN ?_ _ | refine blk_drew ?_ | refine blk_alloc ?_ _)); exact BK143.out) hb); have n1_ := Aside0.mk (below_step (by repeat (first | (with_reducible first | exact HB.out | apply below_alloc | apply pw_below_drewN | apply below_drew1 | refine below_set ?_ GE143.out) | exact HB.out)) hb); clear BK143; clear HB; have BK143 := n0_; have HB := n1_; clear n0_ n1_; (try clear hb); (try clear hb2); (try clear hk); (try clear hi)))
              go_ret
              exact ⟨by first | rfl | (simp [errW_none, errW_some] <;> rfl) | (simp [*, errW_none, errW_some] <;> rfl) | (simp only [isEmpty_ne_, isEmpty_eq_]; rfl) | (simp [*, isEmpty_ne_, isEmpty_eq_]; done), by repeat (first | (with_reducible first | exact HB.out | apply below_alloc | apply pw_below_drewN | apply below_drew1 | refine below_set ?_ GE143.out) | exact HB.out)⟩
            · rw [if_neg c15] at H
              have c15b0 : (t145.toList == ([] : List UInt8)) = false := beq_eq_false_iff_ne.mpr c15
              have c15b1 : (t145.toList != ([] : List UInt8)) = true := bne_iff_ne.mpr c15
              obtain rfl := Option.some.inj H
              have hcz21_0 : wc.cell? ⟨gb143, 0, none⟩ = some (.string a2_0) := (blk_cell BK143.out 0).trans rfl
              have hcz21_1 : wc.cell? ⟨gb143, 1, none⟩ = some (.int .i64 a2_1) := (blk_cell BK143.out 1).trans rfl
              have hcz21_2 : wc.cell? ⟨gb143, 2, none⟩ = some (.int .i64 a2_2) := (blk_cell BK143.out 2).trans rfl
              have hcz21_3 : wc.cell? ⟨gb143, 3, none⟩ = some (.string a2_3) := (blk_cell BK143.out 3).trans rfl
              have hfz21_0 := blk_frozen BK143.out 0
              have hfz21_1 := blk_frozen BK143.out 1
              have hfz21_2 := blk_frozen BK143.out 2
              have hfz21_3 := blk_frozen BK143.out 3
              go_wp2_with (first | ((with_reducible refine gate_callee (f := 65) rfl ?_); refine goesL_ (some 28) rfl rfl Tryd.func65 (by kernel_rfl) rfl #[.slice A0 l0.length c0, .int .i64 1, .int .i64 a2_2, .int .i64 a1] rfl (by (try simp only [List.map_toArray, List.map_cons, List.map_nil]); first | done | rfl | (simp only [List.length_drop, List.length_take]; rfl)) ?_; (with_reducible refine (names_Name.calls _ _ l0 1 a2_2 a1 t145 t146 _ ?side1 ?side2 A14.out).mono ?_); (case side1 => repeat (first | exact (Kd.C_below HR0.out HB.out) | (with_reducible refine Kd.C_alloc ?_ _) | (with_reducible refine Kd.C_drewN ?_ _) | (with_reducible refine Kd.C_drew ?_))); (case side2 => exact HC0.out); rintro e w22 ⟨rfl, hb⟩; refine ⟨_, rfl, ?_⟩; have n0_ := Aside0.mk (blk_below (g := gb143) (o := .cells #[.string a2_0, .int .i64 a2_1, .int .i64 a2_2, .string a2_3] 34 (0, 0)) (by (with_reducible repeat (first | refine blk_drewN ?_ _ | refine blk_drew ?_ | refine blk_alloc ?_ _)); exact BK143.out) hb); have n1_ := Aside0.mk (below_step (by repeat (first | (with_reducible first | exact HB.out | apply below_alloc | apply pw_below_drewN | apply below_drew1 | refine below_set ?_ GE143.out) | exact HB.out)) hb); clear BK143; clear HB; have BK143 := n0_; have HB := n1_; clear n0_ n1_; (try clear hb); (try clear hb2); (try clear hk); (try clear hi)))
              go_ret
              exact ⟨by first | rfl | (simp [errW_none, errW_some] <;> rfl) | (simp [*, errW_none, errW_some] <;> rfl) | (simp only [isEmpty_ne_, isEmpty_eq_]; rfl) | (simp [*, isEmpty_ne_, isEmpty_eq_]; done), by repeat (first | (with_reducible first | exact HB.out | apply below_alloc | apply pw_below_drewN | apply below_drew1 | refine below_set ?_ GE143.out) | exact HB.out)⟩
        · replace c11 := Bool.eq_false_iff.mpr c11
          subst c11
          have H1 : (if a2_0.toList = ([103, 105, 100] : List UInt8) then (names_Interpret.j1 kj4 l0 a1 (⟨#[]⟩ : ByteArray) a2_0 (a2_0.toList == ([103, 105, 100] : List UInt8)) a2_0 a2_1 a2_2 a2_3) else (if a2_0.toList = ([101, 103, 105, 100] : List UInt8) then (names_Interpret.j1 kj4 l0 a1 (⟨#[]⟩ : ByteArray) a2_0 (a2_0.toList == ([101, 103, 105, 100] : List UInt8)) a2_0 a2_1 a2_2 a2_3) else (names_Interpret.j1 kj4 l0 a1 (⟨#[]⟩ : ByteArray) a2_0 (a2_0.toList == ([111, 103, 105, 100] : List UInt8)) a2_0 a2_1 a2_2 a2_3))) = some r := by rw [if_neg (show ¬ (false = true) by decide)] at H; exact H
          clear H
          have H := H1
          clear H1
          have HC23 := Aside0.mk H
          clear H
          go_upto_if 31 with (fail)
          go_cut [31] (fun v31 wc => ∃ (kq : Nat) (x31_22 : Bool), v31 = .bool x31_22 ∧ Aside0 (names_Interpret.j1 kq l0 a1 (⟨#[]⟩ : ByteArray) a2_0 x31_22 a2_0 a2_1 a2_2 a2_3 = some r) ∧ Aside0 (kq ≤ kj4) ∧ Aside0 (wc.heap[gb143]? = some (.cells #[.string a2_0, .int .i64 a2_1, .int .i64 a2_2, .string a2_3] 34 (0, 0))) ∧ Aside0 (Below w.heap.size w wc))
          case first =>
            have H := HC23.out
            clear HC23
            by_cases c24 : a2_0.toList = ([103, 105, 100] : List UInt8)
            · rw [if_pos c24] at H
              have c24b0 : (a2_0.toList == ([103, 105, 100] : List UInt8)) = true := beq_iff_eq.mpr c24
              have c24b1 : (a2_0.toList != ([103, 105, 100] : List UInt8)) = false := bne_eq_false_iff_eq.mpr c24
              clear c24
              (first | rw [c24b0] | (simp only [i64_w, i32_w]; rw [c24b0]) | skip)
              have H' := Aside0.mk H
              clear H
              go_wp2
              go_meet
              case rel => exact ⟨_, ((a2_0.toList == ([103, 105, 100] : List UInt8))), (by first | rfl | (simp; done) | (simp [*]; done)), H', ⟨by have := HJ4.out; first | omega | exact Nat.le_refl _⟩, ⟨by (with_reducible repeat (first | refine blk_drewN ?_ _ | refine blk_drew ?_ | refine blk_alloc ?_ _)); exact BK143.out⟩, ⟨by repeat (first | (with_reducible first | exact HB.out | apply below_alloc | apply pw_below_drewN | apply below_drew1 | refine below_set ?_ GE143.out) | exact HB.out)⟩⟩
            · rw [if_neg c24] at H
              have c24b0 : (a2_0.toList == ([103, 105, 100] : List UInt8)) = false := beq_eq_false_iff_ne.mpr c24
              have c24b1 : (a2_0.toList != ([103, 105, 100] : List UInt8)) = true := bne_iff_ne.mpr c24
              (first | rw [c24b0] | (simp only [i64_w, i32_w]; rw [c24b0]) | skip)
              by_cases c25 : a2_0.toList = ([101, 103, 105, 100] : List UInt8)
              · rw [if_pos c25] at H
                have c25b0 : (a2_0.toList == ([101, 103, 105, 100] : List UInt8)) = true := beq_iff_eq.mpr c25
                have c25b1 : (a2_0.toList != ([101, 103, 105, 100] : List UInt8)) = false := bne_eq_false_iff_eq.mpr c25
                clear c25
                have H' := Aside0.mk H
                clear H
                go_wp2
                go_meet
                case rel => exact ⟨_, ((a2_0.toList == ([101, 103, 105, 100] : List UInt8))), (by first | rfl | (simp; done) | (simp [*]; done)), H', ⟨by have := HJ4.out; first | omega | exact Nat.le_refl _⟩, ⟨by (with_reducible repeat (first | refine blk_drewN ?_ _ | refine blk_drew ?_ | refine blk_alloc ?_ _)); exact BK143.out⟩, ⟨by repeat (first | (with_reducible first | exact HB.out | apply below_alloc | apply pw_below_drewN | apply below_drew1 | refine below_set ?_ GE143.out) | exact HB.out)⟩⟩
              · rw [if_neg c25] at H
                have c25b0 : (a2_0.toList == ([101, 103, 105, 100] : List UInt8)) = false := beq_eq_false_iff_ne.mpr c25
                have c25b1 : (a2_0.toList != ([101, 103, 105, 100] : List UInt8)) = true := bne_iff_ne.mpr c25
                have H' := Aside0.mk H
                clear H
                go_wp2
                go_meet
                case rel => exact ⟨_, ((a2_0.toList == ([111, 103, 105, 100] : List UInt8))), (by first | rfl | (simp; done) | (simp [*]; done)), H', ⟨by have := HJ4.out; first | omega | exact Nat.le_refl _⟩, ⟨by (with_reducible repeat (first | refine blk_drewN ?_ _ | refine blk_drew ?_ | refine blk_alloc ?_ _)); exact BK143.out⟩, ⟨by repeat (first | (with_reducible first | exact HB.out | apply below_alloc | apply pw_below_drewN | apply below_drew1 | refine below_set ?_ GE143.out) | exact HB.out)⟩⟩
          case rest =>
            clear HC23
            try clear c1
            try clear c2
            try clear p2
            try clear c4
            try clear c4b0
            try clear c4b1
            try clear c6
            try clear c8
            try clear c8b0
            try clear c8b1
            try clear c9
            try clear c9b0
            try clear c9b1
            try clear c10
            try clear c10b0
            try clear c10b1
            try clear c11
            try clear c12
            try clear c12b0
            try clear c12b1
            try clear c15
            try clear c15b0
            try clear c15b1
            try clear c23
            try clear c24
            try clear c24b0
            try clear c24b1
            try clear c25
            try clear c25b0
            try clear c25b1
            try clear hcz13_0
            try clear hcz13_1
            try clear hcz13_2
            try clear hcz13_3
            try clear hcz17_0
            try clear hcz17_1
            try clear hcz17_2
            try clear hcz17_3
            try clear hcz19_0
            try clear hcz19_1
            try clear hcz19_2
            try clear hcz19_3
            try clear hcz21_0
            try clear hcz21_1
            try clear hcz21_2
            try clear hcz21_3
            try clear hcz7_0
            try clear hcz7_1
            try clear hcz7_2
            try clear hcz7_3
            try clear hfz13_0
            try clear hfz13_1
            try clear hfz13_2
            try clear hfz13_3
            try clear hfz17_0
            try clear hfz17_1
            try clear hfz17_2
            try clear hfz17_3
            try clear hfz19_0
            try clear hfz19_1
            try clear hfz19_2
            try clear hfz19_3
            try clear hfz21_0
            try clear hfz21_1
            try clear hfz21_2
            try clear hfz21_3
            try clear hfz7_0
            try clear hfz7_1
            try clear hfz7_2
            try clear hfz7_3
            try clear p2
            obtain ⟨kq, x31_22, rfl, HA, HJ22, BK143, HB⟩ := hcut
            cases kq with
            | zero => exact absurd HA.out (by simp [names_Interpret.j1])
            | succ kj22 =>
              have H := HA.out
              clear HA
              simp only [names_Interpret.j1] at H
              by_cases c26 : x31_22 = true
              · subst c26
                have H1 : ((names_Name.f l0 2 a2_2 a1).bind fun bt148 => (if bt148.1.toList = ([] : List UInt8) then ((names_Plain.f a2_0 a2_1 a2_2 a2_3).bind fun t150 => (some t150)) else (some bt148.1))) = some r := by rw [if_pos rfl] at H; exact H
                clear H
                have H := H1
                clear H1
                replace H := Option.bind_eq_some_iff.mp H
                obtain ⟨⟨t148, t149⟩, A270, H⟩ := H
                replace H : (if t148.toList = ([] : List UInt8) then ((names_Plain.f a2_0 a2_1 a2_2 a2_3).bind fun t150 => (some t150)) else (some t148)) = some r := H
                have A27 := Aside0.mk A270
                clear A270
                by_cases c28 : t148.toList = ([] : List UInt8)
                · rw [if_pos c28] at H
                  have c28b0 : (t148.toList == ([] : List UInt8)) = true := beq_iff_eq.mpr c28
                  have c28b1 : (t148.toList != ([] : List UInt8)) = false := bne_eq_false_iff_eq.mpr c28
                  clear c28
                  replace H := Option.bind_eq_some_iff.mp H
                  obtain ⟨t150, A290, H⟩ := H
                  replace H : (some t150) = some r := H
                  have A29 := Aside0.mk A290
                  clear A290
                  obtain rfl := Option.some.inj H
                  have hcz30_0 : wc.cell? ⟨gb143, 0, none⟩ = some (.string a2_0) := (blk_cell BK143.out 0).trans rfl
                  have hcz30_1 : wc.cell? ⟨gb143, 1, none⟩ = some (.int .i64 a2_1) := (blk_cell BK143.out 1).trans rfl
                  have hcz30_2 : wc.cell? ⟨gb143, 2, none⟩ = some (.int .i64 a2_2) := (blk_cell BK143.out 2).trans rfl
                  have hcz30_3 : wc.cell? ⟨gb143, 3, none⟩ = some (.string a2_3) := (blk_cell BK143.out 3).trans rfl
                  have hfz30_0 := blk_frozen BK143.out 0
                  have hfz30_1 := blk_frozen BK143.out 1
                  have hfz30_2 := blk_frozen BK143.out 2
                  have hfz30_3 := blk_frozen BK143.out 3
                  go_wp2_with (first | ((with_reducible refine gate_callee (f := 65) rfl ?_); refine goesL_ (some 40) rfl rfl Tryd.func65 (by kernel_rfl) rfl #[.slice A0 l0.length c0, .int .i64 2, .int .i64 a2_2, .int .i64 a1] rfl (by (try simp only [List.map_toArray, List.map_cons, List.map_nil]); first | done | rfl | (simp only [List.length_drop, List.length_take]; rfl)) ?_; (with_reducible refine (names_Name.calls _ _ l0 2 a2_2 a1 t148 t149 _ ?side1 ?side2 A27.out).mono ?_); (case side1 => repeat (first | exact (Kd.C_below HR0.out HB.out) | (with_reducible refine Kd.C_alloc ?_ _) | (with_reducible refine Kd.C_drewN ?_ _) | (with_reducible refine Kd.C_drew ?_))); (case side2 => exact HC0.out); rintro e w31 ⟨rfl, hb⟩; refine ⟨_, rfl, ?_⟩; have n0_ := Aside0.mk (blk_below (g := gb143) (o := .cells #[.string a2_0, .int .i64 a2_1, .int .i64 a2_2, .string a2_3] 34 (0, 0)) (by (with_reducible repeat (first | refine blk_drewN ?_ _ | refine blk_drew ?_ | refine blk_alloc ?_ _)); exact BK143.out) hb); have n1_ := Aside0.mk (below_step (by repeat (first | (with_reducible first | exact HB.out | apply below_alloc | apply pw_below_drewN | apply below_drew1 | refine below_set ?_ GE143.out) | exact HB.out)) hb); clear BK143; clear HB; have BK143 := n0_; have HB := n1_; clear n0_ n1_; (try clear hb); (try clear hb2); (try clear hk); (try clear hi); have hcz32_0 : w31.cell? ⟨gb143, 0, none⟩ = some (.string a2_0) := (blk_cell BK143.out 0).trans rfl; have hcz32_1 : w31.cell? ⟨gb143, 1, none⟩ = some (.int .i64 a2_1) := (blk_cell BK143.out 1).trans rfl; have hcz32_2 : w31.cell? ⟨gb143, 2, none⟩ = some (.int .i64 a2_2) := (blk_cell BK143.out 2).trans rfl; have hcz32_3 : w31.cell? ⟨gb143, 3, none⟩ = some (.string a2_3) := (blk_cell BK143.out 3).trans rfl; have hfz32_0 := blk_frozen BK143.out 0; have hfz32_1 := blk_frozen BK143.out 1; have hfz32_2 := blk_frozen BK143.out 2; have hfz32_3 := blk_frozen BK143.out 3) | ((with_reducible refine gate_callee (f := 25) rfl ?_); refine goesL_ (some 79) rfl rfl Tryd.func25 (by kernel_rfl) rfl #[.agg #[.string a2_0, .int .i64 a2_1, .int .i64 a2_2, .string a2_3]] rfl (by (try simp only [List.map_toArray, List.map_cons, List.map_nil]); first | done | rfl | (simp only [List.length_drop, List.length_take]; rfl)) ?_; (with_reducible refine (names_Plain.calls a2_0 a2_1 a2_2 a2_3 t150 _ ?side1 A29.out).mono ?_); (case side1 => refine GL.below HGL.out ?_; repeat (first | (with_reducible first | exact HB.out | apply below_alloc | apply pw_below_drewN | apply below_drew1 | refine below_set ?_ GE143.out) | exact HB.out)); rintro e w33 ⟨rfl, hb⟩; refine ⟨_, rfl, ?_⟩; have n0_ := Aside0.mk (blk_below (g := gb143) (o := .cells #[.string a2_0, .int .i64 a2_1, .int .i64 a2_2, .string a2_3] 34 (0, 0)) (by (with_reducible repeat (first | refine blk_drewN ?_ _ | refine blk_drew ?_ | refine blk_alloc ?_ _)); exact BK143.out) hb); have n1_ := Aside0.mk (below_step (by repeat (first | (with_reducible first | exact HB.out | apply below_alloc | apply pw_below_drewN | apply below_drew1 | refine below_set ?_ GE143.out) | exact HB.out)) hb); clear BK143; clear HB; have BK143 := n0_; have HB := n1_; clear n0_ n1_; (try clear hb); (try clear hb2); (try clear hk); (try clear hi)))
                  go_ret
                  exact ⟨by first | rfl | (simp [errW_none, errW_some] <;> rfl) | (simp [*, errW_none, errW_some] <;> rfl) | (simp only [isEmpty_ne_, isEmpty_eq_]; rfl) | (simp [*, isEmpty_ne_, isEmpty_eq_]; done), by repeat (first | (with_reducible first | exact HB.out | apply below_alloc | apply pw_below_drewN | apply below_drew1 | refine below_set ?_ GE143.out) | exact HB.out)⟩
                · rw [if_neg c28] at H
                  have c28b0 : (t148.toList == ([] : List UInt8)) = false := beq_eq_false_iff_ne.mpr c28
                  have c28b1 : (t148.toList != ([] : List UInt8)) = true := bne_iff_ne.mpr c28
                  obtain rfl := Option.some.inj H
                  have hcz34_0 : wc.cell? ⟨gb143, 0, none⟩ = some (.string a2_0) := (blk_cell BK143.out 0).trans rfl
                  have hcz34_1 : wc.cell? ⟨gb143, 1, none⟩ = some (.int .i64 a2_1) := (blk_cell BK143.out 1).trans rfl
                  have hcz34_2 : wc.cell? ⟨gb143, 2, none⟩ = some (.int .i64 a2_2) := (blk_cell BK143.out 2).trans rfl
                  have hcz34_3 : wc.cell? ⟨gb143, 3, none⟩ = some (.string a2_3) := (blk_cell BK143.out 3).trans rfl
                  have hfz34_0 := blk_frozen BK143.out 0
                  have hfz34_1 := blk_frozen BK143.out 1
                  have hfz34_2 := blk_frozen BK143.out 2
                  have hfz34_3 := blk_frozen BK143.out 3
                  go_wp2_with (first | ((with_reducible refine gate_callee (f := 65) rfl ?_); refine goesL_ (some 40) rfl rfl Tryd.func65 (by kernel_rfl) rfl #[.slice A0 l0.length c0, .int .i64 2, .int .i64 a2_2, .int .i64 a1] rfl (by (try simp only [List.map_toArray, List.map_cons, List.map_nil]); first | done | rfl | (simp only [List.length_drop, List.length_take]; rfl)) ?_; (with_reducible refine (names_Name.calls _ _ l0 2 a2_2 a1 t148 t149 _ ?side1 ?side2 A27.out).mono ?_); (case side1 => repeat (first | exact (Kd.C_below HR0.out HB.out) | (with_reducible refine Kd.C_alloc ?_ _) | (with_reducible refine Kd.C_drewN ?_ _) | (with_reducible refine Kd.C_drew ?_))); (case side2 => exact HC0.out); rintro e w35 ⟨rfl, hb⟩; refine ⟨_, rfl, ?_⟩; have n0_ := Aside0.mk (blk_below (g := gb143) (o := .cells #[.string a2_0, .int .i64 a2_1, .int .i64 a2_2, .string a2_3] 34 (0, 0)) (by (with_reducible repeat (first | refine blk_drewN ?_ _ | refine blk_drew ?_ | refine blk_alloc ?_ _)); exact BK143.out) hb); have n1_ := Aside0.mk (below_step (by repeat (first | (with_reducible first | exact HB.out | apply below_alloc | apply pw_below_drewN | apply below_drew1 | refine below_set ?_ GE143.out) | exact HB.out)) hb); clear BK143; clear HB; have BK143 := n0_; have HB := n1_; clear n0_ n1_; (try clear hb); (try clear hb2); (try clear hk); (try clear hi)))
                  go_ret
                  exact ⟨by first | rfl | (simp [errW_none, errW_some] <;> rfl) | (simp [*, errW_none, errW_some] <;> rfl) | (simp only [isEmpty_ne_, isEmpty_eq_]; rfl) | (simp [*, isEmpty_ne_, isEmpty_eq_]; done), by repeat (first | (with_reducible first | exact HB.out | apply below_alloc | apply pw_below_drewN | apply below_drew1 | refine below_set ?_ GE143.out) | exact HB.out)⟩
              · replace c26 := Bool.eq_false_iff.mpr c26
                subst c26
                have H1 : (if a2_0.toList = ([115, 101, 115] : List UInt8) then (if a2_2 = 4294967295 then (some (⟨#[117, 110, 115, 101, 116]⟩ : ByteArray)) else (if (⟨#[]⟩ : ByteArray).toList = ([] : List UInt8) then ((names_Plain.f a2_0 a2_1 a2_2 a2_3).bind fun t151 => (some t151)) else (some (⟨#[]⟩ : ByteArray)))) else (if a2_0.toList = ([101, 120, 105, 116] : List UInt8) then (if a2_2 < 0 then (names_Interpret.j2 kj22 (⟨#[]⟩ : ByteArray) (decide (a2_2 > (-9223372036854775808))) a2_0 a2_1 a2_2 a2_3) else (names_Interpret.j2 kj22 (⟨#[]⟩ : ByteArray) false a2_0 a2_1 a2_2 a2_3)) else (if a2_0.toList = ([109, 111, 100, 101] : List UInt8) then ((access_Format.f a2_2).bind fun t156 => (if t156.toList = ([] : List UInt8) then ((names_Plain.f a2_0 a2_1 a2_2 a2_3).bind fun t157 => (some t157)) else (some t156))) else (if a2_0.toList = ([112, 101, 114, 109] : List UInt8) then ((names_perms.f a2_2).bind fun t158 => (if t158.toList = ([] : List UInt8) then ((names_Plain.f a2_0 a2_1 a2_2 a2_3).bind fun t159 => (some t159)) else (some t158))) else (if (⟨#[]⟩ : ByteArray).toList = ([] : List UInt8) then ((names_Plain.f a2_0 a2_1 a2_2 a2_3).bind fun t160 => (some t160)) else (some (⟨#[]⟩ : ByteArray))))))) = some r := by rw [if_neg (show ¬ (false = true) by decide)] at H; exact H
                clear H
                have H := H1
                clear H1
                by_cases c36 : a2_0.toList = ([115, 101, 115] : List UInt8)
                · rw [if_pos c36] at H
                  have c36b0 : (a2_0.toList == ([115, 101, 115] : List UInt8)) = true := beq_iff_eq.mpr c36
                  have c36b1 : (a2_0.toList != ([115, 101, 115] : List UInt8)) = false := bne_eq_false_iff_eq.mpr c36
                  clear c36
                  by_cases c37 : a2_2 = 4294967295
                  · rw [if_pos c37] at H
                    have c37b0 : (a2_2 == 4294967295) = true := beq_iff_eq.mpr c37
                    have c37b1 : (a2_2 != 4294967295) = false := bne_eq_false_iff_eq.mpr c37
                    clear c37
                    obtain rfl := Option.some.inj H
                    have hcz38_0 : wc.cell? ⟨gb143, 0, none⟩ = some (.string a2_0) := (blk_cell BK143.out 0).trans rfl
                    have hcz38_1 : wc.cell? ⟨gb143, 1, none⟩ = some (.int .i64 a2_1) := (blk_cell BK143.out 1).trans rfl
                    have hcz38_2 : wc.cell? ⟨gb143, 2, none⟩ = some (.int .i64 a2_2) := (blk_cell BK143.out 2).trans rfl
                    have hcz38_3 : wc.cell? ⟨gb143, 3, none⟩ = some (.string a2_3) := (blk_cell BK143.out 3).trans rfl
                    have hfz38_0 := blk_frozen BK143.out 0
                    have hfz38_1 := blk_frozen BK143.out 1
                    have hfz38_2 := blk_frozen BK143.out 2
                    have hfz38_3 := blk_frozen BK143.out 3
                    go_wp2
                    go_ret
                    exact ⟨by first | rfl | (simp [errW_none, errW_some] <;> rfl) | (simp [*, errW_none, errW_some] <;> rfl) | (simp only [isEmpty_ne_, isEmpty_eq_]; rfl) | (simp [*, isEmpty_ne_, isEmpty_eq_]; done), by repeat (first | (with_reducible first | exact HB.out | apply below_alloc | apply pw_below_drewN | apply below_drew1 | refine below_set ?_ GE143.out) | exact HB.out)⟩
                  · rw [if_neg c37] at H
                    have c37b0 : (a2_2 == 4294967295) = false := beq_eq_false_iff_ne.mpr c37
                    have c37b1 : (a2_2 != 4294967295) = true := bne_iff_ne.mpr c37
                    rw [if_pos (by simp [ByteArray.toList_eq])] at H
                    replace H := Option.bind_eq_some_iff.mp H
                    obtain ⟨t151, A390, H⟩ := H
                    replace H : (some t151) = some r := H
                    have A39 := Aside0.mk A390
                    clear A390
                    obtain rfl := Option.some.inj H
                    have hcz40_0 : wc.cell? ⟨gb143, 0, none⟩ = some (.string a2_0) := (blk_cell BK143.out 0).trans rfl
                    have hcz40_1 : wc.cell? ⟨gb143, 1, none⟩ = some (.int .i64 a2_1) := (blk_cell BK143.out 1).trans rfl
                    have hcz40_2 : wc.cell? ⟨gb143, 2, none⟩ = some (.int .i64 a2_2) := (blk_cell BK143.out 2).trans rfl
                    have hcz40_3 : wc.cell? ⟨gb143, 3, none⟩ = some (.string a2_3) := (blk_cell BK143.out 3).trans rfl
                    have hfz40_0 := blk_frozen BK143.out 0
                    have hfz40_1 := blk_frozen BK143.out 1
                    have hfz40_2 := blk_frozen BK143.out 2
                    have hfz40_3 := blk_frozen BK143.out 3
                    go_wp2_with (first | ((with_reducible refine gate_callee (f := 25) rfl ?_); refine goesL_ (some 79) rfl rfl Tryd.func25 (by kernel_rfl) rfl #[.agg #[.string a2_0, .int .i64 a2_1, .int .i64 a2_2, .string a2_3]] rfl (by (try simp only [List.map_toArray, List.map_cons, List.map_nil]); first | done | rfl | (simp only [List.length_drop, List.length_take]; rfl)) ?_; (with_reducible refine (names_Plain.calls a2_0 a2_1 a2_2 a2_3 t151 _ ?side1 A39.out).mono ?_); (case side1 => refine GL.below HGL.out ?_; repeat (first | (with_reducible first | exact HB.out | apply below_alloc | apply pw_below_drewN | apply below_drew1 | refine below_set ?_ GE143.out) | exact HB.out)); rintro e w41 ⟨rfl, hb⟩; refine ⟨_, rfl, ?_⟩; have n0_ := Aside0.mk (blk_below (g := gb143) (o := .cells #[.string a2_0, .int .i64 a2_1, .int .i64 a2_2, .string a2_3] 34 (0, 0)) (by (with_reducible repeat (first | refine blk_drewN ?_ _ | refine blk_drew ?_ | refine blk_alloc ?_ _)); exact BK143.out) hb); have n1_ := Aside0.mk (below_step (by repeat (first | (with_reducible first | exact HB.out | apply below_alloc | apply pw_below_drewN | apply below_drew1 | refine below_set ?_ GE143.out) | exact HB.out)) hb); clear BK143; clear HB; have BK143 := n0_; have HB := n1_; clear n0_ n1_; (try clear hb); (try clear hb2); (try clear hk); (try clear hi)))
                    go_ret
                    exact ⟨by first | rfl | (simp [errW_none, errW_some] <;> rfl) | (simp [*, errW_none, errW_some] <;> rfl) | (simp only [isEmpty_ne_, isEmpty_eq_]; rfl) | (simp [*, isEmpty_ne_, isEmpty_eq_]; done), by repeat (first | (with_reducible first | exact HB.out | apply below_alloc | apply pw_below_drewN | apply below_drew1 | refine below_set ?_ GE143.out) | exact HB.out)⟩
                · rw [if_neg c36] at H
                  have c36b0 : (a2_0.toList == ([115, 101, 115] : List UInt8)) = false := beq_eq_false_iff_ne.mpr c36
                  have c36b1 : (a2_0.toList != ([115, 101, 115] : List UInt8)) = true := bne_iff_ne.mpr c36
                  by_cases c42 : a2_0.toList = ([101, 120, 105, 116] : List UInt8)
                  · rw [if_pos c42] at H
                    have c42b0 : (a2_0.toList == ([101, 120, 105, 116] : List UInt8)) = true := beq_iff_eq.mpr c42
                    have c42b1 : (a2_0.toList != ([101, 120, 105, 116] : List UInt8)) = false := bne_eq_false_iff_eq.mpr c42
                    clear c42
                    have HC43 := Aside0.mk H
                    clear H
                    go_upto_region 20 with (fail)
                    go_cut [57] (fun v57 wc => ∃ (kq : Nat) (x57_42 : Bool), v57 = .bool x57_42 ∧ Aside0 (names_Interpret.j2 kq (⟨#[]⟩ : ByteArray) x57_42 a2_0 a2_1 a2_2 a2_3 = some r) ∧ Aside0 (kq ≤ kj22) ∧ Aside0 (wc.heap[gb143]? = some (.cells #[.string a2_0, .int .i64 a2_1, .int .i64 a2_2, .string a2_3] 34 (0, 0))) ∧ Aside0 (Below w.heap.size w wc))
                    case first =>
                      have H := HC43.out
                      clear HC43
                      by_cases c44 : a2_2 < 0
                      · rw [if_pos c44] at H
                        have c44b0 : decide (a2_2 < 0) = true := decide_eq_true c44
                        clear c44
                        (first | rw [c44b0] | (simp only [i64_w, i32_w]; rw [c44b0]) | skip)
                        have H' := Aside0.mk H
                        clear H
                        have hcz45_0 : wc.cell? ⟨gb143, 0, none⟩ = some (.string a2_0) := (blk_cell BK143.out 0).trans rfl
                        have hcz45_1 : wc.cell? ⟨gb143, 1, none⟩ = some (.int .i64 a2_1) := (blk_cell BK143.out 1).trans rfl
                        have hcz45_2 : wc.cell? ⟨gb143, 2, none⟩ = some (.int .i64 a2_2) := (blk_cell BK143.out 2).trans rfl
                        have hcz45_3 : wc.cell? ⟨gb143, 3, none⟩ = some (.string a2_3) := (blk_cell BK143.out 3).trans rfl
                        have hfz45_0 := blk_frozen BK143.out 0
                        have hfz45_1 := blk_frozen BK143.out 1
                        have hfz45_2 := blk_frozen BK143.out 2
                        have hfz45_3 := blk_frozen BK143.out 3
                        go_wp2
                        go_meet
                        case rel => exact ⟨_, (decide (a2_2 > (-9223372036854775808))), (by first | rfl | (simp; done) | (simp [*]; done)), H', ⟨by have := HJ4.out; have := HJ22.out; first | omega | exact Nat.le_refl _⟩, ⟨by (with_reducible repeat (first | refine blk_drewN ?_ _ | refine blk_drew ?_ | refine blk_alloc ?_ _)); exact BK143.out⟩, ⟨by repeat (first | (with_reducible first | exact HB.out | apply below_alloc | apply pw_below_drewN | apply below_drew1 | refine below_set ?_ GE143.out) | exact HB.out)⟩⟩
                      · rw [if_neg c44] at H
                        have c44b0 : decide (a2_2 < 0) = false := decide_eq_false c44
                        clear c44
                        (first | rw [c44b0] | (simp only [i64_w, i32_w]; rw [c44b0]) | skip)
                        have H' := Aside0.mk H
                        clear H
                        have hcz46_0 : wc.cell? ⟨gb143, 0, none⟩ = some (.string a2_0) := (blk_cell BK143.out 0).trans rfl
                        have hcz46_1 : wc.cell? ⟨gb143, 1, none⟩ = some (.int .i64 a2_1) := (blk_cell BK143.out 1).trans rfl
                        have hcz46_2 : wc.cell? ⟨gb143, 2, none⟩ = some (.int .i64 a2_2) := (blk_cell BK143.out 2).trans rfl
                        have hcz46_3 : wc.cell? ⟨gb143, 3, none⟩ = some (.string a2_3) := (blk_cell BK143.out 3).trans rfl
                        have hfz46_0 := blk_frozen BK143.out 0
                        have hfz46_1 := blk_frozen BK143.out 1
                        have hfz46_2 := blk_frozen BK143.out 2
                        have hfz46_3 := blk_frozen BK143.out 3
                        go_wp2
                        go_meet
                        case rel => exact ⟨_, (false), (by first | rfl | (simp; done) | (simp [*]; done)), H', ⟨by have := HJ4.out; have := HJ22.out; first | omega | exact Nat.le_refl _⟩, ⟨by (with_reducible repeat (first | refine blk_drewN ?_ _ | refine blk_drew ?_ | refine blk_alloc ?_ _)); exact BK143.out⟩, ⟨by repeat (first | (with_reducible first | exact HB.out | apply below_alloc | apply pw_below_drewN | apply below_drew1 | refine below_set ?_ GE143.out) | exact HB.out)⟩⟩
                    case rest =>
                      clear HC43
                      try clear c1
                      try clear c2
                      try clear p2
                      try clear c3
                      try clear c4
                      try clear c4b0
                      try clear c4b1
                      try clear c6
                      try clear c8
                      try clear c8b0
                      try clear c8b1
                      try clear c9
                      try clear c9b0
                      try clear c9b1
                      try clear c10
                      try clear c10b0
                      try clear c10b1
                      try clear c11
                      try clear c12
                      try clear c12b0
                      try clear c12b1
                      try clear c15
                      try clear c15b0
                      try clear c15b1
                      try clear c23
                      try clear c24
                      try clear c24b0
                      try clear c24b1
                      try clear c25
                      try clear c25b0
                      try clear c25b1
                      try clear c26
                      try clear c28
                      try clear c28b0
                      try clear c28b1
                      try clear c36
                      try clear c36b0
                      try clear c36b1
                      try clear c37
                      try clear c37b0
                      try clear c37b1
                      try clear c42
                      try clear c42b0
                      try clear c42b1
                      try clear c44
                      try clear c44b0
                      try clear hcz13_0
                      try clear hcz13_1
                      try clear hcz13_2
                      try clear hcz13_3
                      try clear hcz17_0
                      try clear hcz17_1
                      try clear hcz17_2
                      try clear hcz17_3
                      try clear hcz19_0
                      try clear hcz19_1
                      try clear hcz19_2
                      try clear hcz19_3
                      try clear hcz21_0
                      try clear hcz21_1
                      try clear hcz21_2
                      try clear hcz21_3
                      try clear hcz30_0
                      try clear hcz30_1
                      try clear hcz30_2
                      try clear hcz30_3
                      try clear hcz32_0
                      try clear hcz32_1
                      try clear hcz32_2
                      try clear hcz32_3
                      try clear hcz34_0
                      try clear hcz34_1
                      try clear hcz34_2
                      try clear hcz34_3
                      try clear hcz38_0
                      try clear hcz38_1
                      try clear hcz38_2
                      try clear hcz38_3
                      try clear hcz40_0
                      try clear hcz40_1
                      try clear hcz40_2
                      try clear hcz40_3
                      try clear hcz45_0
                      try clear hcz45_1
                      try clear hcz45_2
                      try clear hcz45_3
                      try clear hcz46_0
                      try clear hcz46_1
                      try clear hcz46_2
                      try clear hcz46_3
                      try clear hcz7_0
                      try clear hcz7_1
                      try clear hcz7_2
                      try clear hcz7_3
                      try clear hfz13_0
                      try clear hfz13_1
                      try clear hfz13_2
                      try clear hfz13_3
                      try clear hfz17_0
                      try clear hfz17_1
                      try clear hfz17_2
                      try clear hfz17_3
                      try clear hfz19_0
                      try clear hfz19_1
                      try clear hfz19_2
                      try clear hfz19_3
                      try clear hfz21_0
                      try clear hfz21_1
                      try clear hfz21_2
                      try clear hfz21_3
                      try clear hfz30_0
                      try clear hfz30_1
                      try clear hfz30_2
                      try clear hfz30_3
                      try clear hfz32_0
                      try clear hfz32_1
                      try clear hfz32_2
                      try clear hfz32_3
                      try clear hfz34_0
                      try clear hfz34_1
                      try clear hfz34_2
                      try clear hfz34_3
                      try clear hfz38_0
                      try clear hfz38_1
                      try clear hfz38_2
                      try clear hfz38_3
                      try clear hfz40_0
                      try clear hfz40_1
                      try clear hfz40_2
                      try clear hfz40_3
                      try clear hfz45_0
                      try clear hfz45_1
                      try clear hfz45_2
                      try clear hfz45_3
                      try clear hfz46_0
                      try clear hfz46_1
                      try clear hfz46_2
                      try clear hfz46_3
                      try clear hfz7_0
                      try clear hfz7_1
                      try clear hfz7_2
                      try clear hfz7_3
                      try clear p2
                      obtain ⟨kq, x57_42, rfl, HA, HJ42, BK143, HB⟩ := hcut
                      cases kq with
                      | zero => exact absurd HA.out (by simp [names_Interpret.j2])
                      | succ kj42 =>
                        have H := HA.out
                        clear HA
                        simp only [names_Interpret.j2] at H
                        by_cases c47 : x57_42 = true
                        · subst c47
                          have H1 : ((names_ErrorName.f (wrap64 (-a2_2))).bind fun t152 => (if t152.toList = ([] : List UInt8) then ((names_Plain.f a2_0 a2_1 a2_2 a2_3).bind fun t153 => (some t153)) else (if 1 + t152.size ≤ 9223372036854775807 then (if ((⟨#[45]⟩ : ByteArray) ++ t152).toList = ([] : List UInt8) then ((names_Plain.f a2_0 a2_1 a2_2 a2_3).bind fun t154 => (some t154)) else (some ((⟨#[45]⟩ : ByteArray) ++ t152))) else (none)))) = some r := by rw [if_pos rfl] at H; exact H
                          clear H
                          have H := H1
                          clear H1
                          replace H := Option.bind_eq_some_iff.mp H
                          obtain ⟨t152, A480, H⟩ := H
                          replace H : (if t152.toList = ([] : List UInt8) then ((names_Plain.f a2_0 a2_1 a2_2 a2_3).bind fun t153 => (some t153)) else (if 1 + t152.size ≤ 9223372036854775807 then (if ((⟨#[45]⟩ : ByteArray) ++ t152).toList = ([] : List UInt8) then ((names_Plain.f a2_0 a2_1 a2_2 a2_3).bind fun t154 => (some t154)) else (some ((⟨#[45]⟩ : ByteArray) ++ t152))) else (none))) = some r := H
                          have A48 := Aside0.mk A480
                          clear A480
                          by_cases c49 : t152.toList = ([] : List UInt8)
                          · rw [if_pos c49] at H
                            have c49b0 : (t152.toList == ([] : List UInt8)) = true := beq_iff_eq.mpr c49
                            have c49b1 : (t152.toList != ([] : List UInt8)) = false := bne_eq_false_iff_eq.mpr c49
                            clear c49
                            replace H := Option.bind_eq_some_iff.mp H
                            obtain ⟨t153, A500, H⟩ := H
                            replace H : (some t153) = some r := H
                            have A50 := Aside0.mk A500
                            clear A500
                            obtain rfl := Option.some.inj H
                            have hcz51_0 : wc.cell? ⟨gb143, 0, none⟩ = some (.string a2_0) := (blk_cell BK143.out 0).trans rfl
                            have hcz51_1 : wc.cell? ⟨gb143, 1, none⟩ = some (.int .i64 a2_1) := (blk_cell BK143.out 1).trans rfl
                            have hcz51_2 : wc.cell? ⟨gb143, 2, none⟩ = some (.int .i64 a2_2) := (blk_cell BK143.out 2).trans rfl
                            have hcz51_3 : wc.cell? ⟨gb143, 3, none⟩ = some (.string a2_3) := (blk_cell BK143.out 3).trans rfl
                            have hfz51_0 := blk_frozen BK143.out 0
                            have hfz51_1 := blk_frozen BK143.out 1
                            have hfz51_2 := blk_frozen BK143.out 2
                            have hfz51_3 := blk_frozen BK143.out 3
                            go_wp2_with (first | ((with_reducible refine gate_callee (f := 27) rfl ?_); refine goesL_ (some 61) rfl rfl Tryd.func27 (by kernel_rfl) rfl #[.int .i64 (wrap64 (-a2_2))] rfl (by (try simp only [List.map_toArray, List.map_cons, List.map_nil]); first | done | rfl | (simp only [List.length_drop, List.length_take]; rfl)) ?_; (with_reducible refine (names_ErrorName.calls (wrap64 (-a2_2)) t152 _ A48.out).mono ?_); rintro e w52 ⟨rfl, hb⟩; refine ⟨_, rfl, ?_⟩; have n0_ := Aside0.mk (blk_below (g := gb143) (o := .cells #[.string a2_0, .int .i64 a2_1, .int .i64 a2_2, .string a2_3] 34 (0, 0)) (by (with_reducible repeat (first | refine blk_drewN ?_ _ | refine blk_drew ?_ | refine blk_alloc ?_ _)); exact BK143.out) hb); have n1_ := Aside0.mk (below_step (by repeat (first | (with_reducible first | exact HB.out | apply below_alloc | apply pw_below_drewN | apply below_drew1 | refine below_set ?_ GE143.out) | exact HB.out)) hb); clear BK143; clear HB; have BK143 := n0_; have HB := n1_; clear n0_ n1_; (try clear hb); (try clear hb2); (try clear hk); (try clear hi); have hcz53_0 : w52.cell? ⟨gb143, 0, none⟩ = some (.string a2_0) := (blk_cell BK143.out 0).trans rfl; have hcz53_1 : w52.cell? ⟨gb143, 1, none⟩ = some (.int .i64 a2_1) := (blk_cell BK143.out 1).trans rfl; have hcz53_2 : w52.cell? ⟨gb143, 2, none⟩ = some (.int .i64 a2_2) := (blk_cell BK143.out 2).trans rfl; have hcz53_3 : w52.cell? ⟨gb143, 3, none⟩ = some (.string a2_3) := (blk_cell BK143.out 3).trans rfl; have hfz53_0 := blk_frozen BK143.out 0; have hfz53_1 := blk_frozen BK143.out 1; have hfz53_2 := blk_frozen BK143.out 2; have hfz53_3 := blk_frozen BK143.out 3) | ((with_reducible refine gate_callee (f := 25) rfl ?_); refine goesL_ (some 79) rfl rfl Tryd.func25 (by kernel_rfl) rfl #[.agg #[.string a2_0, .int .i64 a2_1, .int .i64 a2_2, .string a2_3]] rfl (by (try simp only [List.map_toArray, List.map_cons, List.map_nil]); first | done | rfl | (simp only [List.length_drop, List.length_take]; rfl)) ?_; (with_reducible refine (names_Plain.calls a2_0 a2_1 a2_2 a2_3 t153 _ ?side1 A50.out).mono ?_); (case side1 => refine GL.below HGL.out ?_; repeat (first | (with_reducible first | exact HB.out | apply below_alloc | apply pw_below_drewN | apply below_drew1 | refine below_set ?_ GE143.out) | exact HB.out)); rintro e w54 ⟨rfl, hb⟩; refine ⟨_, rfl, ?_⟩; have n0_ := Aside0.mk (blk_below (g := gb143) (o := .cells #[.string a2_0, .int .i64 a2_1, .int .i64 a2_2, .string a2_3] 34 (0, 0)) (by (with_reducible repeat (first | refine blk_drewN ?_ _ | refine blk_drew ?_ | refine blk_alloc ?_ _)); exact BK143.out) hb); have n1_ := Aside0.mk (below_step (by repeat (first | (with_reducible first | exact HB.out | apply below_alloc | apply pw_below_drewN | apply below_drew1 | refine below_set ?_ GE143.out) | exact HB.out)) hb); clear BK143; clear HB; have BK143 := n0_; have HB := n1_; clear n0_ n1_; (try clear hb); (try clear hb2); (try clear hk); (try clear hi)))
                            go_ret
                            exact ⟨by first | rfl | (simp [errW_none, errW_some] <;> rfl) | (simp [*, errW_none, errW_some] <;> rfl) | (simp only [isEmpty_ne_, isEmpty_eq_]; rfl) | (simp [*, isEmpty_ne_, isEmpty_eq_]; done), by repeat (first | (with_reducible first | exact HB.out | apply below_alloc | apply pw_below_drewN | apply below_drew1 | refine below_set ?_ GE143.out) | exact HB.out)⟩
                          · rw [if_neg c49] at H
                            have c49b0 : (t152.toList == ([] : List UInt8)) = false := beq_eq_false_iff_ne.mpr c49
                            have c49b1 : (t152.toList != ([] : List UInt8)) = true := bne_iff_ne.mpr c49
                            by_cases c55 : 1 + t152.size ≤ 9223372036854775807
                            · rw [if_pos c55] at H
                              have c55b0 := eq_true c55
                              have c55b1 : decide (1 + t152.size ≤ 9223372036854775807) = true := decide_eq_true c55
                              try have c55b2 : (9223372036854775807 < 1 + t152.size) = False := eq_false (Nat.not_lt.2 c55)
                              by_cases c56 : ((⟨#[45]⟩ : ByteArray) ++ t152).toList = ([] : List UInt8)
                              · rw [if_pos c56] at H
                                have c56b0 : (((⟨#[45]⟩ : ByteArray) ++ t152).toList == ([] : List UInt8)) = true := beq_iff_eq.mpr c56
                                have c56b1 : (((⟨#[45]⟩ : ByteArray) ++ t152).toList != ([] : List UInt8)) = false := bne_eq_false_iff_eq.mpr c56
                                clear c56
                                replace H := Option.bind_eq_some_iff.mp H
                                obtain ⟨t154, A570, H⟩ := H
                                replace H : (some t154) = some r := H
                                have A57 := Aside0.mk A570
                                clear A570
                                obtain rfl := Option.some.inj H
                                have hcz58_0 : wc.cell? ⟨gb143, 0, none⟩ = some (.string a2_0) := (blk_cell BK143.out 0).trans rfl
                                have hcz58_1 : wc.cell? ⟨gb143, 1, none⟩ = some (.int .i64 a2_1) := (blk_cell BK143.out 1).trans rfl
                                have hcz58_2 : wc.cell? ⟨gb143, 2, none⟩ = some (.int .i64 a2_2) := (blk_cell BK143.out 2).trans rfl
                                have hcz58_3 : wc.cell? ⟨gb143, 3, none⟩ = some (.string a2_3) := (blk_cell BK143.out 3).trans rfl
                                have hfz58_0 := blk_frozen BK143.out 0
                                have hfz58_1 := blk_frozen BK143.out 1
                                have hfz58_2 := blk_frozen BK143.out 2
                                have hfz58_3 := blk_frozen BK143.out 3
                                go_wp2_with (first | ((with_reducible refine gate_callee (f := 27) rfl ?_); refine goesL_ (some 61) rfl rfl Tryd.func27 (by kernel_rfl) rfl #[.int .i64 (wrap64 (-a2_2))] rfl (by (try simp only [List.map_toArray, List.map_cons, List.map_nil]); first | done | rfl | (simp only [List.length_drop, List.length_take]; rfl)) ?_; (with_reducible refine (names_ErrorName.calls (wrap64 (-a2_2)) t152 _ A48.out).mono ?_); rintro e w59 ⟨rfl, hb⟩; refine ⟨_, rfl, ?_⟩; have n0_ := Aside0.mk (blk_below (g := gb143) (o := .cells #[.string a2_0, .int .i64 a2_1, .int .i64 a2_2, .string a2_3] 34 (0, 0)) (by (with_reducible repeat (first | refine blk_drewN ?_ _ | refine blk_drew ?_ | refine blk_alloc ?_ _)); exact BK143.out) hb); have n1_ := Aside0.mk (below_step (by repeat (first | (with_reducible first | exact HB.out | apply below_alloc | apply pw_below_drewN | apply below_drew1 | refine below_set ?_ GE143.out) | exact HB.out)) hb); clear BK143; clear HB; have BK143 := n0_; have HB := n1_; clear n0_ n1_; (try clear hb); (try clear hb2); (try clear hk); (try clear hi); have hcz60_0 : w59.cell? ⟨gb143, 0, none⟩ = some (.string a2_0) := (blk_cell BK143.out 0).trans rfl; have hcz60_1 : w59.cell? ⟨gb143, 1, none⟩ = some (.int .i64 a2_1) := (blk_cell BK143.out 1).trans rfl; have hcz60_2 : w59.cell? ⟨gb143, 2, none⟩ = some (.int .i64 a2_2) := (blk_cell BK143.out 2).trans rfl; have hcz60_3 : w59.cell? ⟨gb143, 3, none⟩ = some (.string a2_3) := (blk_cell BK143.out 3).trans rfl; have hfz60_0 := blk_frozen BK143.out 0; have hfz60_1 := blk_frozen BK143.out 1; have hfz60_2 := blk_frozen BK143.out 2; have hfz60_3 := blk_frozen BK143.out 3) | ((with_reducible refine gate_callee (f := 25) rfl ?_); refine goesL_ (some 79) rfl rfl Tryd.func25 (by kernel_rfl) rfl #[.agg #[.string a2_0, .int .i64 a2_1, .int .i64 a2_2, .string a2_3]] rfl (by (try simp only [List.map_toArray, List.map_cons, List.map_nil]); first | done | rfl | (simp only [List.length_drop, List.length_take]; rfl)) ?_; (with_reducible refine (names_Plain.calls a2_0 a2_1 a2_2 a2_3 t154 _ ?side1 A57.out).mono ?_); (case side1 => refine GL.below HGL.out ?_; repeat (first | (with_reducible first | exact HB.out | apply below_alloc | apply pw_below_drewN | apply below_drew1 | refine below_set ?_ GE143.out) | exact HB.out)); rintro e w61 ⟨rfl, hb⟩; refine ⟨_, rfl, ?_⟩; have n0_ := Aside0.mk (blk_below (g := gb143) (o := .cells #[.string a2_0, .int .i64 a2_1, .int .i64 a2_2, .string a2_3] 34 (0, 0)) (by (with_reducible repeat (first | refine blk_drewN ?_ _ | refine blk_drew ?_ | refine blk_alloc ?_ _)); exact BK143.out) hb); have n1_ := Aside0.mk (below_step (by repeat (first | (with_reducible first | exact HB.out | apply below_alloc | apply pw_below_drewN | apply below_drew1 | refine below_set ?_ GE143.out) | exact HB.out)) hb); clear BK143; clear HB; have BK143 := n0_; have HB := n1_; clear n0_ n1_; (try clear hb); (try clear hb2); (try clear hk); (try clear hi)))
                                go_ret
                                exact ⟨by first | rfl | (simp [errW_none, errW_some] <;> rfl) | (simp [*, errW_none, errW_some] <;> rfl) | (simp only [isEmpty_ne_, isEmpty_eq_]; rfl) | (simp [*, isEmpty_ne_, isEmpty_eq_]; done), by repeat (first | (with_reducible first | exact HB.out | apply below_alloc | apply pw_below_drewN | apply below_drew1 | refine below_set ?_ GE143.out) | exact HB.out)⟩
                              · rw [if_neg c56] at H
                                have c56b0 : (((⟨#[45]⟩ : ByteArray) ++ t152).toList == ([] : List UInt8)) = false := beq_eq_false_iff_ne.mpr c56
                                have c56b1 : (((⟨#[45]⟩ : ByteArray) ++ t152).toList != ([] : List UInt8)) = true := bne_iff_ne.mpr c56
                                obtain rfl := Option.some.inj H
                                have hcz62_0 : wc.cell? ⟨gb143, 0, none⟩ = some (.string a2_0) := (blk_cell BK143.out 0).trans rfl
                                have hcz62_1 : wc.cell? ⟨gb143, 1, none⟩ = some (.int .i64 a2_1) := (blk_cell BK143.out 1).trans rfl
                                have hcz62_2 : wc.cell? ⟨gb143, 2, none⟩ = some (.int .i64 a2_2) := (blk_cell BK143.out 2).trans rfl
                                have hcz62_3 : wc.cell? ⟨gb143, 3, none⟩ = some (.string a2_3) := (blk_cell BK143.out 3).trans rfl
                                have hfz62_0 := blk_frozen BK143.out 0
                                have hfz62_1 := blk_frozen BK143.out 1
                                have hfz62_2 := blk_frozen BK143.out 2
                                have hfz62_3 := blk_frozen BK143.out 3
                                go_wp2_with (first | ((with_reducible refine gate_callee (f := 27) rfl ?_); refine goesL_ (some 61) rfl rfl Tryd.func27 (by kernel_rfl) rfl #[.int .i64 (wrap64 (-a2_2))] rfl (by (try simp only [List.map_toArray, List.map_cons, List.map_nil]); first | done | rfl | (simp only [List.length_drop, List.length_take]; rfl)) ?_; (with_reducible refine (names_ErrorName.calls (wrap64 (-a2_2)) t152 _ A48.out).mono ?_); rintro e w63 ⟨rfl, hb⟩; refine ⟨_, rfl, ?_⟩; have n0_ := Aside0.mk (blk_below (g := gb143) (o := .cells #[.string a2_0, .int .i64 a2_1, .int .i64 a2_2, .string a2_3] 34 (0, 0)) (by (with_reducible repeat (first | refine blk_drewN ?_ _ | refine blk_drew ?_ | refine blk_alloc ?_ _)); exact BK143.out) hb); have n1_ := Aside0.mk (below_step (by repeat (first | (with_reducible first | exact HB.out | apply below_alloc | apply pw_below_drewN | apply below_drew1 | refine below_set ?_ GE143.out) | exact HB.out)) hb); clear BK143; clear HB; have BK143 := n0_; have HB := n1_; clear n0_ n1_; (try clear hb); (try clear hb2); (try clear hk); (try clear hi)))
                                go_ret
                                exact ⟨by first | rfl | (simp [errW_none, errW_some] <;> rfl) | (simp [*, errW_none, errW_some] <;> rfl) | (simp only [isEmpty_ne_, isEmpty_eq_]; rfl) | (simp [*, isEmpty_ne_, isEmpty_eq_]; done), by repeat (first | (with_reducible first | exact HB.out | apply below_alloc | apply pw_below_drewN | apply below_drew1 | refine below_set ?_ GE143.out) | exact HB.out)⟩
                            · rw [if_neg c55] at H
                              exact absurd H (by simp)
                        · replace c47 := Bool.eq_false_iff.mpr c47
                          subst c47
                          have H1 : (if (⟨#[]⟩ : ByteArray).toList = ([] : List UInt8) then ((names_Plain.f a2_0 a2_1 a2_2 a2_3).bind fun t155 => (some t155)) else (some (⟨#[]⟩ : ByteArray))) = some r := by rw [if_neg (show ¬ (false = true) by decide)] at H; exact H
                          clear H
                          have H := H1
                          clear H1
                          rw [if_pos (by simp [ByteArray.toList_eq])] at H
                          replace H := Option.bind_eq_some_iff.mp H
                          obtain ⟨t155, A640, H⟩ := H
                          replace H : (some t155) = some r := H
                          have A64 := Aside0.mk A640
                          clear A640
                          obtain rfl := Option.some.inj H
                          have hcz65_0 : wc.cell? ⟨gb143, 0, none⟩ = some (.string a2_0) := (blk_cell BK143.out 0).trans rfl
                          have hcz65_1 : wc.cell? ⟨gb143, 1, none⟩ = some (.int .i64 a2_1) := (blk_cell BK143.out 1).trans rfl
                          have hcz65_2 : wc.cell? ⟨gb143, 2, none⟩ = some (.int .i64 a2_2) := (blk_cell BK143.out 2).trans rfl
                          have hcz65_3 : wc.cell? ⟨gb143, 3, none⟩ = some (.string a2_3) := (blk_cell BK143.out 3).trans rfl
                          have hfz65_0 := blk_frozen BK143.out 0
                          have hfz65_1 := blk_frozen BK143.out 1
                          have hfz65_2 := blk_frozen BK143.out 2
                          have hfz65_3 := blk_frozen BK143.out 3
                          go_wp2_with (first | ((with_reducible refine gate_callee (f := 25) rfl ?_); refine goesL_ (some 79) rfl rfl Tryd.func25 (by kernel_rfl) rfl #[.agg #[.string a2_0, .int .i64 a2_1, .int .i64 a2_2, .string a2_3]] rfl (by (try simp only [List.map_toArray, List.map_cons, List.map_nil]); first | done | rfl | (simp only [List.length_drop, List.length_take]; rfl)) ?_; (with_reducible refine (names_Plain.calls a2_0 a2_1 a2_2 a2_3 t155 _ ?side1 A64.out).mono ?_); (case side1 => refine GL.below HGL.out ?_; repeat (first | (with_reducible first | exact HB.out | apply below_alloc | apply pw_below_drewN | apply below_drew1 | refine below_set ?_ GE143.out) | exact HB.out)); rintro e w66 ⟨rfl, hb⟩; refine ⟨_, rfl, ?_⟩; have n0_ := Aside0.mk (blk_below (g := gb143) (o := .cells #[.string a2_0, .int .i64 a2_1, .int .i64 a2_2, .string a2_3] 34 (0, 0)) (by (with_reducible repeat (first | refine blk_drewN ?_ _ | refine blk_drew ?_ | refine blk_alloc ?_ _)); exact BK143.out) hb); have n1_ := Aside0.mk (below_step (by repeat (first | (with_reducible first | exact HB.out | apply below_alloc | apply pw_below_drewN | apply below_drew1 | refine below_set ?_ GE143.out) | exact HB.out)) hb); clear BK143; clear HB; have BK143 := n0_; have HB := n1_; clear n0_ n1_; (try clear hb); (try clear hb2); (try clear hk); (try clear hi)))
                          go_ret
                          exact ⟨by first | rfl | (simp [errW_none, errW_some] <;> rfl) | (simp [*, errW_none, errW_some] <;> rfl) | (simp only [isEmpty_ne_, isEmpty_eq_]; rfl) | (simp [*, isEmpty_ne_, isEmpty_eq_]; done), by repeat (first | (with_reducible first | exact HB.out | apply below_alloc | apply pw_below_drewN | apply below_drew1 | refine below_set ?_ GE143.out) | exact HB.out)⟩
                  · rw [if_neg c42] at H
                    have c42b0 : (a2_0.toList == ([101, 120, 105, 116] : List UInt8)) = false := beq_eq_false_iff_ne.mpr c42
                    have c42b1 : (a2_0.toList != ([101, 120, 105, 116] : List UInt8)) = true := bne_iff_ne.mpr c42
                    by_cases c67 : a2_0.toList = ([109, 111, 100, 101] : List UInt8)
                    · rw [if_pos c67] at H
                      have c67b0 : (a2_0.toList == ([109, 111, 100, 101] : List UInt8)) = true := beq_iff_eq.mpr c67
                      have c67b1 : (a2_0.toList != ([109, 111, 100, 101] : List UInt8)) = false := bne_eq_false_iff_eq.mpr c67
                      clear c67
                      replace H := Option.bind_eq_some_iff.mp H
                      obtain ⟨t156, A680, H⟩ := H
                      replace H : (if t156.toList = ([] : List UInt8) then ((names_Plain.f a2_0 a2_1 a2_2 a2_3).bind fun t157 => (some t157)) else (some t156)) = some r := H
                      have A68 := Aside0.mk A680
                      clear A680
                      by_cases c69 : t156.toList = ([] : List UInt8)
                      · rw [if_pos c69] at H
                        have c69b0 : (t156.toList == ([] : List UInt8)) = true := beq_iff_eq.mpr c69
                        have c69b1 : (t156.toList != ([] : List UInt8)) = false := bne_eq_false_iff_eq.mpr c69
                        clear c69
                        replace H := Option.bind_eq_some_iff.mp H
                        obtain ⟨t157, A700, H⟩ := H
                        replace H : (some t157) = some r := H
                        have A70 := Aside0.mk A700
                        clear A700
                        obtain rfl := Option.some.inj H
                        have hcz71_0 : wc.cell? ⟨gb143, 0, none⟩ = some (.string a2_0) := (blk_cell BK143.out 0).trans rfl
                        have hcz71_1 : wc.cell? ⟨gb143, 1, none⟩ = some (.int .i64 a2_1) := (blk_cell BK143.out 1).trans rfl
                        have hcz71_2 : wc.cell? ⟨gb143, 2, none⟩ = some (.int .i64 a2_2) := (blk_cell BK143.out 2).trans rfl
                        have hcz71_3 : wc.cell? ⟨gb143, 3, none⟩ = some (.string a2_3) := (blk_cell BK143.out 3).trans rfl
                        have hfz71_0 := blk_frozen BK143.out 0
                        have hfz71_1 := blk_frozen BK143.out 1
                        have hfz71_2 := blk_frozen BK143.out 2
                        have hfz71_3 := blk_frozen BK143.out 3
                        go_wp2_with (first | ((with_reducible refine gate_callee (f := 66) rfl ?_); refine goesL_ (some 70) rfl rfl Tryd.func66 (by kernel_rfl) rfl #[.int .i64 a2_2] rfl (by (try simp only [List.map_toArray, List.map_cons, List.map_nil]); first | done | rfl | (simp only [List.length_drop, List.length_take]; rfl)) ?_; (with_reducible refine (access_Format.calls a2_2 t156 _ ?side1 A68.out).mono ?_); (case side1 => refine GL.below HGL.out ?_; repeat (first | (with_reducible first | exact HB.out | apply below_alloc | apply pw_below_drewN | apply below_drew1 | refine below_set ?_ GE143.out) | exact HB.out)); rintro e w72 ⟨rfl, hb⟩; refine ⟨_, rfl, ?_⟩; have n0_ := Aside0.mk (blk_below (g := gb143) (o := .cells #[.string a2_0, .int .i64 a2_1, .int .i64 a2_2, .string a2_3] 34 (0, 0)) (by (with_reducible repeat (first | refine blk_drewN ?_ _ | refine blk_drew ?_ | refine blk_alloc ?_ _)); exact BK143.out) hb); have n1_ := Aside0.mk (below_step (by repeat (first | (with_reducible first | exact HB.out | apply below_alloc | apply pw_below_drewN | apply below_drew1 | refine below_set ?_ GE143.out) | exact HB.out)) hb); clear BK143; clear HB; have BK143 := n0_; have HB := n1_; clear n0_ n1_; (try clear hb); (try clear hb2); (try clear hk); (try clear hi); have hcz73_0 : w72.cell? ⟨gb143, 0, none⟩ = some (.string a2_0) := (blk_cell BK143.out 0).trans rfl; have hcz73_1 : w72.cell? ⟨gb143, 1, none⟩ = some (.int .i64 a2_1) := (blk_cell BK143.out 1).trans rfl; have hcz73_2 : w72.cell? ⟨gb143, 2, none⟩ = some (.int .i64 a2_2) := (blk_cell BK143.out 2).trans rfl; have hcz73_3 : w72.cell? ⟨gb143, 3, none⟩ = some (.string a2_3) := (blk_cell BK143.out 3).trans rfl; have hfz73_0 := blk_frozen BK143.out 0; have hfz73_1 := blk_frozen BK143.out 1; have hfz73_2 := blk_frozen BK143.out 2; have hfz73_3 := blk_frozen BK143.out 3) | ((with_reducible refine gate_callee (f := 25) rfl ?_); refine goesL_ (some 79) rfl rfl Tryd.func25 (by kernel_rfl) rfl #[.agg #[.string a2_0, .int .i64 a2_1, .int .i64 a2_2, .string a2_3]] rfl (by (try simp only [List.map_toArray, List.map_cons, List.map_nil]); first | done | rfl | (simp only [List.length_drop, List.length_take]; rfl)) ?_; (with_reducible refine (names_Plain.calls a2_0 a2_1 a2_2 a2_3 t157 _ ?side1 A70.out).mono ?_); (case side1 => refine GL.below HGL.out ?_; repeat (first | (with_reducible first | exact HB.out | apply below_alloc | apply pw_below_drewN | apply below_drew1 | refine below_set ?_ GE143.out) | exact HB.out)); rintro e w74 ⟨rfl, hb⟩; refine ⟨_, rfl, ?_⟩; have n0_ := Aside0.mk (blk_below (g := gb143) (o := .cells #[.string a2_0, .int .i64 a2_1, .int .i64 a2_2, .string a2_3] 34 (0, 0)) (by (with_reducible repeat (first | refine blk_drewN ?_ _ | refine blk_drew ?_ | refine blk_alloc ?_ _)); exact BK143.out) hb); have n1_ := Aside0.mk (below_step (by repeat (first | (with_reducible first | exact HB.out | apply below_alloc | apply pw_below_drewN | apply below_drew1 | refine below_set ?_ GE143.out) | exact HB.out)) hb); clear BK143; clear HB; have BK143 := n0_; have HB := n1_; clear n0_ n1_; (try clear hb); (try clear hb2); (try clear hk); (try clear hi)))
                        go_ret
                        exact ⟨by first | rfl | (simp [errW_none, errW_some] <;> rfl) | (simp [*, errW_none, errW_some] <;> rfl) | (simp only [isEmpty_ne_, isEmpty_eq_]; rfl) | (simp [*, isEmpty_ne_, isEmpty_eq_]; done), by repeat (first | (with_reducible first | exact HB.out | apply below_alloc | apply pw_below_drewN | apply below_drew1 | refine below_set ?_ GE143.out) | exact HB.out)⟩
                      · rw [if_neg c69] at H
                        have c69b0 : (t156.toList == ([] : List UInt8)) = false := beq_eq_false_iff_ne.mpr c69
                        have c69b1 : (t156.toList != ([] : List UInt8)) = true := bne_iff_ne.mpr c69
                        obtain rfl := Option.some.inj H
                        have hcz75_0 : wc.cell? ⟨gb143, 0, none⟩ = some (.string a2_0) := (blk_cell BK143.out 0).trans rfl
                        have hcz75_1 : wc.cell? ⟨gb143, 1, none⟩ = some (.int .i64 a2_1) := (blk_cell BK143.out 1).trans rfl
                        have hcz75_2 : wc.cell? ⟨gb143, 2, none⟩ = some (.int .i64 a2_2) := (blk_cell BK143.out 2).trans rfl
                        have hcz75_3 : wc.cell? ⟨gb143, 3, none⟩ = some (.string a2_3) := (blk_cell BK143.out 3).trans rfl
                        have hfz75_0 := blk_frozen BK143.out 0
                        have hfz75_1 := blk_frozen BK143.out 1
                        have hfz75_2 := blk_frozen BK143.out 2
                        have hfz75_3 := blk_frozen BK143.out 3
                        go_wp2_with (first | ((with_reducible refine gate_callee (f := 66) rfl ?_); refine goesL_ (some 70) rfl rfl Tryd.func66 (by kernel_rfl) rfl #[.int .i64 a2_2] rfl (by (try simp only [List.map_toArray, List.map_cons, List.map_nil]); first | done | rfl | (simp only [List.length_drop, List.length_take]; rfl)) ?_; (with_reducible refine (access_Format.calls a2_2 t156 _ ?side1 A68.out).mono ?_); (case side1 => refine GL.below HGL.out ?_; repeat (first | (with_reducible first | exact HB.out | apply below_alloc | apply pw_below_drewN | apply below_drew1 | refine below_set ?_ GE143.out) | exact HB.out)); rintro e w76 ⟨rfl, hb⟩; refine ⟨_, rfl, ?_⟩; have n0_ := Aside0.mk (blk_below (g := gb143) (o := .cells #[.string a2_0, .int .i64 a2_1, .int .i64 a2_2, .string a2_3] 34 (0, 0)) (by (with_reducible repeat (first | refine blk_drewN ?_ _ | refine blk_drew ?_ | refine blk_alloc ?_ _)); exact BK143.out) hb); have n1_ := Aside0.mk (below_step (by repeat (first | (with_reducible first | exact HB.out | apply below_alloc | apply pw_below_drewN | apply below_drew1 | refine below_set ?_ GE143.out) | exact HB.out)) hb); clear BK143; clear HB; have BK143 := n0_; have HB := n1_; clear n0_ n1_; (try clear hb); (try clear hb2); (try clear hk); (try clear hi)))
                        go_ret
                        exact ⟨by first | rfl | (simp [errW_none, errW_some] <;> rfl) | (simp [*, errW_none, errW_some] <;> rfl) | (simp only [isEmpty_ne_, isEmpty_eq_]; rfl) | (simp [*, isEmpty_ne_, isEmpty_eq_]; done), by repeat (first | (with_reducible first | exact HB.out | apply below_alloc | apply pw_below_drewN | apply below_drew1 | refine below_set ?_ GE143.out) | exact HB.out)⟩
                    · rw [if_neg c67] at H
                      have c67b0 : (a2_0.toList == ([109, 111, 100, 101] : List UInt8)) = false := beq_eq_false_iff_ne.mpr c67
                      have c67b1 : (a2_0.toList != ([109, 111, 100, 101] : List UInt8)) = true := bne_iff_ne.mpr c67
                      by_cases c77 : a2_0.toList = ([112, 101, 114, 109] : List UInt8)
                      · rw [if_pos c77] at H
                        have c77b0 : (a2_0.toList == ([112, 101, 114, 109] : List UInt8)) = true := beq_iff_eq.mpr c77
                        have c77b1 : (a2_0.toList != ([112, 101, 114, 109] : List UInt8)) = false := bne_eq_false_iff_eq.mpr c77
                        clear c77
                        replace H := Option.bind_eq_some_iff.mp H
                        obtain ⟨t158, A780, H⟩ := H
                        replace H : (if t158.toList = ([] : List UInt8) then ((names_Plain.f a2_0 a2_1 a2_2 a2_3).bind fun t159 => (some t159)) else (some t158)) = some r := H
                        have A78 := Aside0.mk A780
                        clear A780
                        by_cases c79 : t158.toList = ([] : List UInt8)
                        · rw [if_pos c79] at H
                          have c79b0 : (t158.toList == ([] : List UInt8)) = true := beq_iff_eq.mpr c79
                          have c79b1 : (t158.toList != ([] : List UInt8)) = false := bne_eq_false_iff_eq.mpr c79
                          clear c79
                          replace H := Option.bind_eq_some_iff.mp H
                          obtain ⟨t159, A800, H⟩ := H
                          replace H : (some t159) = some r := H
                          have A80 := Aside0.mk A800
                          clear A800
                          obtain rfl := Option.some.inj H
                          have hcz81_0 : wc.cell? ⟨gb143, 0, none⟩ = some (.string a2_0) := (blk_cell BK143.out 0).trans rfl
                          have hcz81_1 : wc.cell? ⟨gb143, 1, none⟩ = some (.int .i64 a2_1) := (blk_cell BK143.out 1).trans rfl
                          have hcz81_2 : wc.cell? ⟨gb143, 2, none⟩ = some (.int .i64 a2_2) := (blk_cell BK143.out 2).trans rfl
                          have hcz81_3 : wc.cell? ⟨gb143, 3, none⟩ = some (.string a2_3) := (blk_cell BK143.out 3).trans rfl
                          have hfz81_0 := blk_frozen BK143.out 0
                          have hfz81_1 := blk_frozen BK143.out 1
                          have hfz81_2 := blk_frozen BK143.out 2
                          have hfz81_3 := blk_frozen BK143.out 3
                          go_wp2_with (first | ((with_reducible refine gate_callee (f := 67) rfl ?_); refine goesL_ (some 75) rfl rfl Tryd.func67 (by kernel_rfl) rfl #[.int .i64 a2_2] rfl (by (try simp only [List.map_toArray, List.map_cons, List.map_nil]); first | done | rfl | (simp only [List.length_drop, List.length_take]; rfl)) ?_; (with_reducible refine (names_perms.calls a2_2 t158 _ A78.out).mono ?_); rintro e w82 ⟨rfl, hb⟩; refine ⟨_, rfl, ?_⟩; have n0_ := Aside0.mk (blk_below (g := gb143) (o := .cells #[.string a2_0, .int .i64 a2_1, .int .i64 a2_2, .string a2_3] 34 (0, 0)) (by (with_reducible repeat (first | refine blk_drewN ?_ _ | refine blk_drew ?_ | refine blk_alloc ?_ _)); exact BK143.out) hb); have n1_ := Aside0.mk (below_step (by repeat (first | (with_reducible first | exact HB.out | apply below_alloc | apply pw_below_drewN | apply below_drew1 | refine below_set ?_ GE143.out) | exact HB.out)) hb); clear BK143; clear HB; have BK143 := n0_; have HB := n1_; clear n0_ n1_; (try clear hb); (try clear hb2); (try clear hk); (try clear hi); have hcz83_0 : w82.cell? ⟨gb143, 0, none⟩ = some (.string a2_0) := (blk_cell BK143.out 0).trans rfl; have hcz83_1 : w82.cell? ⟨gb143, 1, none⟩ = some (.int .i64 a2_1) := (blk_cell BK143.out 1).trans rfl; have hcz83_2 : w82.cell? ⟨gb143, 2, none⟩ = some (.int .i64 a2_2) := (blk_cell BK143.out 2).trans rfl; have hcz83_3 : w82.cell? ⟨gb143, 3, none⟩ = some (.string a2_3) := (blk_cell BK143.out 3).trans rfl; have hfz83_0 := blk_frozen BK143.out 0; have hfz83_1 := blk_frozen BK143.out 1; have hfz83_2 := blk_frozen BK143.out 2; have hfz83_3 := blk_frozen BK143.out 3) | ((with_reducible refine gate_callee (f := 25) rfl ?_); refine goesL_ (some 79) rfl rfl Tryd.func25 (by kernel_rfl) rfl #[.agg #[.string a2_0, .int .i64 a2_1, .int .i64 a2_2, .string a2_3]] rfl (by (try simp only [List.map_toArray, List.map_cons, List.map_nil]); first | done | rfl | (simp only [List.length_drop, List.length_take]; rfl)) ?_; (with_reducible refine (names_Plain.calls a2_0 a2_1 a2_2 a2_3 t159 _ ?side1 A80.out).mono ?_); (case side1 => refine GL.below HGL.out ?_; repeat (first | (with_reducible first | exact HB.out | apply below_alloc | apply pw_below_drewN | apply below_drew1 | refine below_set ?_ GE143.out) | exact HB.out)); rintro e w84 ⟨rfl, hb⟩; refine ⟨_, rfl, ?_⟩; have n0_ := Aside0.mk (blk_below (g := gb143) (o := .cells #[.string a2_0, .int .i64 a2_1, .int .i64 a2_2, .string a2_3] 34 (0, 0)) (by (with_reducible repeat (first | refine blk_drewN ?_ _ | refine blk_drew ?_ | refine blk_alloc ?_ _)); exact BK143.out) hb); have n1_ := Aside0.mk (below_step (by repeat (first | (with_reducible first | exact HB.out | apply below_alloc | apply pw_below_drewN | apply below_drew1 | refine below_set ?_ GE143.out) | exact HB.out)) hb); clear BK143; clear HB; have BK143 := n0_; have HB := n1_; clear n0_ n1_; (try clear hb); (try clear hb2); (try clear hk); (try clear hi)))
                          go_ret
                          exact ⟨by first | rfl | (simp [errW_none, errW_some] <;> rfl) | (simp [*, errW_none, errW_some] <;> rfl) | (simp only [isEmpty_ne_, isEmpty_eq_]; rfl) | (simp [*, isEmpty_ne_, isEmpty_eq_]; done), by repeat (first | (with_reducible first | exact HB.out | apply below_alloc | apply pw_below_drewN | apply below_drew1 | refine below_set ?_ GE143.out) | exact HB.out)⟩
                        · rw [if_neg c79] at H
                          have c79b0 : (t158.toList == ([] : List UInt8)) = false := beq_eq_false_iff_ne.mpr c79
                          have c79b1 : (t158.toList != ([] : List UInt8)) = true := bne_iff_ne.mpr c79
                          obtain rfl := Option.some.inj H
                          have hcz85_0 : wc.cell? ⟨gb143, 0, none⟩ = some (.string a2_0) := (blk_cell BK143.out 0).trans rfl
                          have hcz85_1 : wc.cell? ⟨gb143, 1, none⟩ = some (.int .i64 a2_1) := (blk_cell BK143.out 1).trans rfl
                          have hcz85_2 : wc.cell? ⟨gb143, 2, none⟩ = some (.int .i64 a2_2) := (blk_cell BK143.out 2).trans rfl
                          have hcz85_3 : wc.cell? ⟨gb143, 3, none⟩ = some (.string a2_3) := (blk_cell BK143.out 3).trans rfl
                          have hfz85_0 := blk_frozen BK143.out 0
                          have hfz85_1 := blk_frozen BK143.out 1
                          have hfz85_2 := blk_frozen BK143.out 2
                          have hfz85_3 := blk_frozen BK143.out 3
                          go_wp2_with (first | ((with_reducible refine gate_callee (f := 67) rfl ?_); refine goesL_ (some 75) rfl rfl Tryd.func67 (by kernel_rfl) rfl #[.int .i64 a2_2] rfl (by (try simp only [List.map_toArray, List.map_cons, List.map_nil]); first | done | rfl | (simp only [List.length_drop, List.length_take]; rfl)) ?_; (with_reducible refine (names_perms.calls a2_2 t158 _ A78.out).mono ?_); rintro e w86 ⟨rfl, hb⟩; refine ⟨_, rfl, ?_⟩; have n0_ := Aside0.mk (blk_below (g := gb143) (o := .cells #[.string a2_0, .int .i64 a2_1, .int .i64 a2_2, .string a2_3] 34 (0, 0)) (by (with_reducible repeat (first | refine blk_drewN ?_ _ | refine blk_drew ?_ | refine blk_alloc ?_ _)); exact BK143.out) hb); have n1_ := Aside0.mk (below_step (by repeat (first | (with_reducible first | exact HB.out | apply below_alloc | apply pw_below_drewN | apply below_drew1 | refine below_set ?_ GE143.out) | exact HB.out)) hb); clear BK143; clear HB; have BK143 := n0_; have HB := n1_; clear n0_ n1_; (try clear hb); (try clear hb2); (try clear hk); (try clear hi)))
                          go_ret
                          exact ⟨by first | rfl | (simp [errW_none, errW_some] <;> rfl) | (simp [*, errW_none, errW_some] <;> rfl) | (simp only [isEmpty_ne_, isEmpty_eq_]; rfl) | (simp [*, isEmpty_ne_, isEmpty_eq_]; done), by repeat (first | (with_reducible first | exact HB.out | apply below_alloc | apply pw_below_drewN | apply below_drew1 | refine below_set ?_ GE143.out) | exact HB.out)⟩
                      · rw [if_neg c77] at H
                        have c77b0 : (a2_0.toList == ([112, 101, 114, 109] : List UInt8)) = false := beq_eq_false_iff_ne.mpr c77
                        have c77b1 : (a2_0.toList != ([112, 101, 114, 109] : List UInt8)) = true := bne_iff_ne.mpr c77
                        rw [if_pos (by simp [ByteArray.toList_eq])] at H
                        replace H := Option.bind_eq_some_iff.mp H
                        obtain ⟨t160, A870, H⟩ := H
                        replace H : (some t160) = some r := H
                        have A87 := Aside0.mk A870
                        clear A870
                        obtain rfl := Option.some.inj H
                        have hcz88_0 : wc.cell? ⟨gb143, 0, none⟩ = some (.string a2_0) := (blk_cell BK143.out 0).trans rfl
                        have hcz88_1 : wc.cell? ⟨gb143, 1, none⟩ = some (.int .i64 a2_1) := (blk_cell BK143.out 1).trans rfl
                        have hcz88_2 : wc.cell? ⟨gb143, 2, none⟩ = some (.int .i64 a2_2) := (blk_cell BK143.out 2).trans rfl
                        have hcz88_3 : wc.cell? ⟨gb143, 3, none⟩ = some (.string a2_3) := (blk_cell BK143.out 3).trans rfl
                        have hfz88_0 := blk_frozen BK143.out 0
                        have hfz88_1 := blk_frozen BK143.out 1
                        have hfz88_2 := blk_frozen BK143.out 2
                        have hfz88_3 := blk_frozen BK143.out 3
                        go_wp2_with (first | ((with_reducible refine gate_callee (f := 25) rfl ?_); refine goesL_ (some 79) rfl rfl Tryd.func25 (by kernel_rfl) rfl #[.agg #[.string a2_0, .int .i64 a2_1, .int .i64 a2_2, .string a2_3]] rfl (by (try simp only [List.map_toArray, List.map_cons, List.map_nil]); first | done | rfl | (simp only [List.length_drop, List.length_take]; rfl)) ?_; (with_reducible refine (names_Plain.calls a2_0 a2_1 a2_2 a2_3 t160 _ ?side1 A87.out).mono ?_); (case side1 => refine GL.below HGL.out ?_; repeat (first | (with_reducible first | exact HB.out | apply below_alloc | apply pw_below_drewN | apply below_drew1 | refine below_set ?_ GE143.out) | exact HB.out)); rintro e w89 ⟨rfl, hb⟩; refine ⟨_, rfl, ?_⟩; have n0_ := Aside0.mk (blk_below (g := gb143) (o := .cells #[.string a2_0, .int .i64 a2_1, .int .i64 a2_2, .string a2_3] 34 (0, 0)) (by (with_reducible repeat (first | refine blk_drewN ?_ _ | refine blk_drew ?_ | refine blk_alloc ?_ _)); exact BK143.out) hb); have n1_ := Aside0.mk (below_step (by repeat (first | (with_reducible first | exact HB.out | apply below_alloc | apply pw_below_drewN | apply below_drew1 | refine below_set ?_ GE143.out) | exact HB.out)) hb); clear BK143; clear HB; have BK143 := n0_; have HB := n1_; clear n0_ n1_; (try clear hb); (try clear hb2); (try clear hk); (try clear hi)))
                        go_ret
                        exact ⟨by first | rfl | (simp [errW_none, errW_some] <;> rfl) | (simp [*, errW_none, errW_some] <;> rfl) | (simp only [isEmpty_ne_, isEmpty_eq_]; rfl) | (simp [*, isEmpty_ne_, isEmpty_eq_]; done), by repeat (first | (with_reducible first | exact HB.out | apply below_alloc | apply pw_below_drewN | apply below_drew1 | refine below_set ?_ GE143.out) | exact HB.out)⟩
  · rw [if_neg c4] at H
    have c4b0 : (a2_1 == 1) = false := beq_eq_false_iff_ne.mpr c4
    have c4b1 : (a2_1 != 1) = true := bne_iff_ne.mpr c4
    replace H := Option.bind_eq_some_iff.mp H
    obtain ⟨t144, A900, H⟩ := H
    replace H : (some t144) = some r := H
    have A90 := Aside0.mk A900
    clear A900
    obtain rfl := Option.some.inj H
    go_enter Tryd.func23, Tryd.ntmps23
    go_wp2_with (first | ((with_reducible refine gate_dst (N := 5) rfl ?_); refine box_event ?hg (N := 5) ?hd (cs := #[.string a2_0, .int .i64 a2_1, .int .i64 a2_2, .string a2_3]) (t := 34) ?hr ?_; (case hd => rfl); (case hg => rfl); (case hr => first | (go_simp; done) | (go_simp; rfl)); intro gb143 hg w91 hbox hb; have n0_ := Aside0.mk (below_step (by repeat (first | (with_reducible first | exact HB.out | apply below_alloc | apply pw_below_drewN | apply below_drew1) | exact HB.out)) hb); have n1_ := Aside0.mk (hbox); have n2_ := Aside0.mk ((by rw [hg]; exact (below_size (by repeat (first | (with_reducible first | exact HB.out | apply below_alloc | apply pw_below_drewN | apply below_drew1) | exact HB.out))) : w.heap.size ≤ gb143)); have n3_ := Aside0.mk ((by rw [hg]; exact (below_size (by repeat (first | (with_reducible first | exact HB.out | apply below_alloc | apply pw_below_drewN | apply below_drew1) | exact HB.out))) : w.heap.size ≤ gb143)); clear HB; have HB := n0_; have BK143 := n1_; have GW143 := n2_; have GE143 := n3_; clear n0_ n1_ n2_ n3_; clear hb hbox hg; have hcz92_0 : w91.cell? ⟨gb143, 0, none⟩ = some (.string a2_0) := (blk_cell BK143.out 0).trans rfl; have hcz92_1 : w91.cell? ⟨gb143, 1, none⟩ = some (.int .i64 a2_1) := (blk_cell BK143.out 1).trans rfl; have hcz92_2 : w91.cell? ⟨gb143, 2, none⟩ = some (.int .i64 a2_2) := (blk_cell BK143.out 2).trans rfl; have hcz92_3 : w91.cell? ⟨gb143, 3, none⟩ = some (.string a2_3) := (blk_cell BK143.out 3).trans rfl; have hfz92_0 := blk_frozen BK143.out 0; have hfz92_1 := blk_frozen BK143.out 1; have hfz92_2 := blk_frozen BK143.out 2; have hfz92_3 := blk_frozen BK143.out 3) | ((with_reducible refine gate_callee (f := 25) rfl ?_); refine goesL_ (some 12) rfl rfl Tryd.func25 (by kernel_rfl) rfl #[.agg #[.string a2_0, .int .i64 a2_1, .int .i64 a2_2, .string a2_3]] rfl (by (try simp only [List.map_toArray, List.map_cons, List.map_nil]); first | done | rfl | (simp only [List.length_drop, List.length_take]; rfl)) ?_; (with_reducible refine (names_Plain.calls a2_0 a2_1 a2_2 a2_3 t144 _ ?side1 A90.out).mono ?_); (case side1 => refine GL.below HGL.out ?_; repeat (first | (with_reducible first | exact HB.out | apply below_alloc | apply pw_below_drewN | apply below_drew1 | refine below_set ?_ GE143.out) | exact HB.out)); rintro e w93 ⟨rfl, hb⟩; refine ⟨_, rfl, ?_⟩; have n0_ := Aside0.mk (blk_below (g := gb143) (o := .cells #[.string a2_0, .int .i64 a2_1, .int .i64 a2_2, .string a2_3] 34 (0, 0)) (by (with_reducible repeat (first | refine blk_drewN ?_ _ | refine blk_drew ?_ | refine blk_alloc ?_ _)); exact BK143.out) hb); have n1_ := Aside0.mk (below_step (by repeat (first | (with_reducible first | exact HB.out | apply below_alloc | apply pw_below_drewN | apply below_drew1 | refine below_set ?_ GE143.out) | exact HB.out)) hb); clear BK143; clear HB; have BK143 := n0_; have HB := n1_; clear n0_ n1_; (try clear hb); (try clear hb2); (try clear hk); (try clear hi)))
    go_ret
    exact ⟨by first | rfl | (simp [errW_none, errW_some] <;> rfl) | (simp [*, errW_none, errW_some] <;> rfl) | (simp only [isEmpty_ne_, isEmpty_eq_]; rfl) | (simp [*, isEmpty_ne_, isEmpty_eq_]; done), by repeat (first | (with_reducible first | exact HB.out | apply below_alloc | apply pw_below_drewN | apply below_drew1 | refine below_set ?_ GE143.out) | exact HB.out)⟩

end Go.Proofs.YtjnlmmjadlidlaaDoor.PNames
