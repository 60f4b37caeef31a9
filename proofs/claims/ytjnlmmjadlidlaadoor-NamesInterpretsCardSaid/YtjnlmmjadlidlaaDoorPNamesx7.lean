-- Written by a program of mine (wip/kprint.sh): a plain Lean function for each Go function, and the proof that the Go code comes to its answers. Not trusted: Lean checks it.
import Derived.Test.YtjnlmmjadlidlaaDoorPNamesx0
import Derived.Test.YtjnlmmjadlidlaaDoorPNamesx6
namespace Go.Proofs.YtjnlmmjadlidlaaDoor.PNames
open Go.RowKit Go.Proofs.YtjnlmmjadlidlaaDoorW.PrintWords Go.Proofs.YtjnlmmjadlidlaaDoorW.PrintLast Go.Proofs.YtjnlmmjadlidlaaDoorW.PrintMore
attribute [local go_sem] max2_int min2_int max_two min_two max_three min_three max_four min_four   -- for this text's walks alone
set_option linter.unusedVariables false
set_option linter.unusedSimpArgs false

/-! ### kauditref37_special: function 68 -/
mutual
def kauditref37_special.j0 : Nat → List (S47) → Int → Int → ByteArray → Bool → Option (ByteArray)
  | 0, _, _, _, _, _ => none
  | k + 1, x0, x1, x3, x16, x17 => if x17 = true then (if x3 = 4294967295 then (some (⟨#[117, 110, 115, 101, 116]⟩ : ByteArray)) else ((kauditref37_Name.f k x0 1 x3 x1).bind fun bt194 => (some bt194.1))) else (if x16.toList = ([103, 105, 100] : List UInt8) then (kauditref37_special.j1 k x0 x1 x3 x16 (x16.toList == ([103, 105, 100] : List UInt8))) else (if x16.toList = ([101, 103, 105, 100] : List UInt8) then (kauditref37_special.j1 k x0 x1 x3 x16 (x16.toList == ([101, 103, 105, 100] : List UInt8))) else (kauditref37_special.j1 k x0 x1 x3 x16 (x16.toList == ([111, 103, 105, 100] : List UInt8)))))
def kauditref37_special.j1 : Nat → List (S47) → Int → Int → ByteArray → Bool → Option (ByteArray)
  | 0, _, _, _, _, _ => none
  | k + 1, x0, x1, x3, x16, x32 => if x32 = true then ((kauditref37_Name.f k x0 2 x3 x1).bind fun bt196 => (some bt196.1)) else (if x16.toList = ([115, 101, 115] : List UInt8) then (if x3 = 4294967295 then (some (⟨#[117, 110, 115, 101, 116]⟩ : ByteArray)) else (some (⟨#[]⟩ : ByteArray))) else (if x16.toList = ([101, 120, 105, 116] : List UInt8) then (if x3 < 0 then (if (wrap64 (-x3)) > 0 then ((kauditref37_ErrorName.f k (wrap64 (-x3))).bind fun t198 => (if t198.toList = ([] : List UInt8) then (some (⟨#[]⟩ : ByteArray)) else ((kauditref37_ErrorName.f k (wrap64 (-x3))).bind fun t199 => (if 1 + t199.size ≤ 9223372036854775807 then (some ((⟨#[45]⟩ : ByteArray) ++ t199)) else (none))))) else (some (⟨#[]⟩ : ByteArray))) else (some (⟨#[]⟩ : ByteArray))) else (if x16.toList = ([109, 111, 100, 101] : List UInt8) then ((kauditref08_Format.f k x3).bind fun t200 => (some t200)) else (if x16.toList = ([112, 101, 114, 109] : List UInt8) then ((some (([(⟨#[114]⟩ : ByteArray), (⟨#[119]⟩ : ByteArray), (⟨#[120]⟩ : ByteArray), (⟨#[97]⟩ : ByteArray)] : List ByteArray) : List ByteArray)).bind fun y201 => (kauditref37_special.l0 k x3 (⟨#[]⟩ : ByteArray) y201 (y201.length : Int) 0)) else (some (⟨#[]⟩ : ByteArray))))))
def kauditref37_special.l0 : Nat → Int → ByteArray → List ByteArray → Int → Int → Option (ByteArray)
  | 0, _, _, _, _, _ => none
  | k + 1, x3, x13, x73, x74, x75 => if x75 < x74 then (if 0 ≤ x75 then (if x75 < (x73.length : Int) then (if x3 ≥ 1 then (if x3 ≤ 15 then ((some (([4, 2, 1, 8] : List Int) : List Int)).bind fun y205 => (if x75 < (y205.length : Int) then (if (Go.bits .and .i64 x3 (rd y205 x75)) = 0 then (kauditref37_special.l0 k x3 x13 x73 x74 (wrap64 (x75 + 1))) else (if x13.size + (rdOf ByteArray.empty x73 x75).size ≤ 9223372036854775807 then (kauditref37_special.l0 k x3 (x13 ++ (rdOf ByteArray.empty x73 x75)) x73 x74 (wrap64 (x75 + 1))) else (none))) else (none))) else (kauditref37_special.l0 k x3 x13 x73 x74 (wrap64 (x75 + 1)))) else (kauditref37_special.l0 k x3 x13 x73 x74 (wrap64 (x75 + 1)))) else (none)) else (none)) else (some x13)
end
def kauditref37_special.f (k : Nat) (l0 : List (S47)) (a1 : Int) (a2 : ByteArray) (a3 : Int) : Option (ByteArray) := if a2.toList = ([117, 105, 100] : List UInt8) then (kauditref37_special.j0 k l0 a1 a3 a2 (a2.toList == ([117, 105, 100] : List UInt8))) else (if a2.toList = ([101, 117, 105, 100] : List UInt8) then (kauditref37_special.j0 k l0 a1 a3 a2 (a2.toList == ([101, 117, 105, 100] : List UInt8))) else (if a2.toList = ([97, 117, 105, 100] : List UInt8) then (kauditref37_special.j0 k l0 a1 a3 a2 (a2.toList == ([97, 117, 105, 100] : List UInt8))) else (kauditref37_special.j0 k l0 a1 a3 a2 (a2.toList == ([111, 117, 105, 100] : List UInt8)))))
theorem kauditref37_special.mono_l : ∀ k, (∀ y0 y1 y2 y3 y4, LeO (kauditref37_special.j0 k y0 y1 y2 y3 y4) (kauditref37_special.j0 (k + 1) y0 y1 y2 y3 y4)) ∧ (∀ y0 y1 y2 y3 y4, LeO (kauditref37_special.j1 k y0 y1 y2 y3 y4) (kauditref37_special.j1 (k + 1) y0 y1 y2 y3 y4)) ∧ (∀ y0 y1 y2 y3 y4, LeO (kauditref37_special.l0 k y0 y1 y2 y3 y4) (kauditref37_special.l0 (k + 1) y0 y1 y2 y3 y4))
  | 0 => ⟨fun _ _ _ _ _ r h => by simp [kauditref37_special.j0] at h, fun _ _ _ _ _ r h => by simp [kauditref37_special.j1] at h, fun _ _ _ _ _ r h => by simp [kauditref37_special.l0] at h⟩
  | k + 1 => by
    obtain ⟨ih0, ih1, ih2⟩ := kauditref37_special.mono_l k
    refine ⟨?_, ?_, ?_⟩
    · intro y0 y1 y2 y3 y4
      unfold kauditref37_special.j0
      repeat' first
      | (with_reducible exact ih0 _ _ _ _ _)
      | (with_reducible exact ih1 _ _ _ _ _)
      | (with_reducible exact ih2 _ _ _ _ _)
      | (with_reducible exact kauditref08_Format.mono _ _)
      | (with_reducible exact kauditref37_ErrorName.mono _ _)
      | (with_reducible exact kauditref37_Name.mono _ _ _ _ _)
      | (with_reducible exact LeO.refl _)
      | (with_reducible exact LeO.none _)
      | (with_reducible refine LeO.ite ?_ ?_)
      | (with_reducible refine LeO.bind ?_ (fun _ => ?_))
      | exact ih0 _ _ _ _ _
      | exact ih1 _ _ _ _ _
      | exact ih2 _ _ _ _ _
      | exact kauditref08_Format.mono _ _
      | exact kauditref37_ErrorName.mono _ _
      | exact kauditref37_Name.mono _ _ _ _ _
      | exact LeO.none _
      | refine LeO.ite ?_ ?_
      | refine LeO.bind ?_ (fun _ => ?_)
    · intro y0 y1 y2 y3 y4
      unfold kauditref37_special.j1
      repeat' first
      | (with_reducible exact ih0 _ _ _ _ _)
      | (with_reducible exact ih1 _ _ _ _ _)
      | (with_reducible exact ih2 _ _ _ _ _)
      | (with_reducible exact kauditref08_Format.mono _ _)
      | (with_reducible exact kauditref37_ErrorName.mono _ _)
      | (with_reducible exact kauditref37_Name.mono _ _ _ _ _)
      | (with_reducible exact LeO.refl _)
      | (with_reducible exact LeO.none _)
      | (with_reducible refine LeO.ite ?_ ?_)
      | (with_reducible refine LeO.bind ?_ (fun _ => ?_))
      | exact ih0 _ _ _ _ _
      | exact ih1 _ _ _ _ _
      | exact ih2 _ _ _ _ _
      | exact kauditref08_Format.mono _ _
      | exact kauditref37_ErrorName.mono _ _
      | exact kauditref37_Name.mono _ _ _ _ _
      | exact LeO.none _
      | refine LeO.ite ?_ ?_
      | refine LeO.bind ?_ (fun _ => ?_)
    · intro y0 y1 y2 y3 y4
      unfold kauditref37_special.l0
      repeat' first
      | (with_reducible exact ih0 _ _ _ _ _)
      | (with_reducible exact ih1 _ _ _ _ _)
      | (with_reducible exact ih2 _ _ _ _ _)
      | (with_reducible exact kauditref08_Format.mono _ _)
      | (with_reducible exact kauditref37_ErrorName.mono _ _)
      | (with_reducible exact kauditref37_Name.mono _ _ _ _ _)
      | (with_reducible exact LeO.refl _)
      | (with_reducible exact LeO.none _)
      | (with_reducible refine LeO.ite ?_ ?_)
      | (with_reducible refine LeO.bind ?_ (fun _ => ?_))
      | exact ih0 _ _ _ _ _
      | exact ih1 _ _ _ _ _
      | exact ih2 _ _ _ _ _
      | exact kauditref08_Format.mono _ _
      | exact kauditref37_ErrorName.mono _ _
      | exact kauditref37_Name.mono _ _ _ _ _
      | exact LeO.none _
      | refine LeO.ite ?_ ?_
      | refine LeO.bind ?_ (fun _ => ?_)
theorem kauditref37_special.mono : ∀ a0 a1 a2 a3 k, LeO (kauditref37_special.f k a0 a1 a2 a3) (kauditref37_special.f (k + 1) a0 a1 a2 a3) := by
  intro a0 a1 a2 a3 k
  obtain ⟨ih0, ih1, ih2⟩ := kauditref37_special.mono_l k
  unfold kauditref37_special.f
  repeat' first
      | (with_reducible exact ih0 _ _ _ _ _)
      | (with_reducible exact ih1 _ _ _ _ _)
      | (with_reducible exact ih2 _ _ _ _ _)
      | (with_reducible exact kauditref08_Format.mono _ _)
      | (with_reducible exact kauditref37_ErrorName.mono _ _)
      | (with_reducible exact kauditref37_Name.mono _ _ _ _ _)
      | (with_reducible exact LeO.refl _)
      | (with_reducible exact LeO.none _)
      | (with_reducible refine LeO.ite ?_ ?_)
      | (with_reducible refine LeO.bind ?_ (fun _ => ?_))
      | exact ih0 _ _ _ _ _
      | exact ih1 _ _ _ _ _
      | exact ih2 _ _ _ _ _
      | exact kauditref08_Format.mono _ _
      | exact kauditref37_ErrorName.mono _ _
      | exact kauditref37_Name.mono _ _ _ _ _
      | exact LeO.none _
      | refine LeO.ite ?_ ?_
      | refine LeO.bind ?_ (fun _ => ?_)
set_option maxHeartbeats 8000000 in
set_option maxRecDepth 100000 in
theorem kauditref37_special.calls (k : Nat) (A0 : Option Addr) (c0 : Nat) (l0 : List (S47)) (a1 : Int) (a2 : ByteArray) (a3 : Int) (r : ByteArray) (w : World) (hr0 : Kd.C k47 w A0 l0.length l0) (hc0 : l0.length ≤ c0) (h : kauditref37_special.f k l0 a1 a2 a3 = some r) :
    Calls Tryd.prog 68 #[.slice A0 l0.length c0, .int .i64 a1, .string a2, .int .i64 a3] w fun e w' => e = .returned (.string r) ∧ Below w.heap.size w w' := by
  have HR0 := Aside0.mk hr0
  have HC0 := Aside0.mk hc0
  clear hr0 hc0
  have HB := Aside0.mk (Below.refl w.heap.size w)
  have H : (if a2.toList = ([117, 105, 100] : List UInt8) then (kauditref37_special.j0 k l0 a1 a3 a2 (a2.toList == ([117, 105, 100] : List UInt8))) else (if a2.toList = ([101, 117, 105, 100] : List UInt8) then (kauditref37_special.j0 k l0 a1 a3 a2 (a2.toList == ([101, 117, 105, 100] : List UInt8))) else (if a2.toList = ([97, 117, 105, 100] : List UInt8) then (kauditref37_special.j0 k l0 a1 a3 a2 (a2.toList == ([97, 117, 105, 100] : List UInt8))) else (kauditref37_special.j0 k l0 a1 a3 a2 (a2.toList == ([111, 117, 105, 100] : List UInt8)))))) = some r := h
  clear h
  have HC5 := Aside0.mk H
  clear H
  go_enter Tryd.func68, Tryd.ntmps68
  go_upto_if 17 with (fail)
  go_cut [17] (fun v17 wc => ∃ (kq : Nat) (x17_4 : Bool), v17 = .bool x17_4 ∧ Aside0 (kauditref37_special.j0 kq l0 a1 a3 a2 x17_4 = some r) ∧ Aside0 (kq ≤ k) ∧ Aside0 (Below w.heap.size w wc))
  case first =>
    have H := HC5.out
    clear HC5
    by_cases c6 : a2.toList = ([117, 105, 100] : List UInt8)
    · rw [if_pos c6] at H
      have c6b0 : (a2.toList == ([117, 105, 100] : List UInt8)) = true := beq_iff_eq.mpr c6
      have c6b1 : (a2.toList != ([117, 105, 100] : List UInt8)) = false := bne_eq_false_iff_eq.mpr c6
      clear c6
      (first | rw [c6b0] | (simp only [i64_w, i32_w]; rw [c6b0]) | skip)
      have H' := Aside0.mk H
      clear H
      go_wp2
      go_meet
      case rel => exact ⟨_, ((a2.toList == ([117, 105, 100] : List UInt8))), (by first | rfl | (simp; done) | (simp [*]; done)), H', ⟨by first | omega | exact Nat.le_refl _⟩, ⟨by repeat (first | (with_reducible first | exact HB.out | apply below_alloc | apply pw_below_drewN | apply below_drew1) | exact HB.out)⟩⟩
    · rw [if_neg c6] at H
      have c6b0 : (a2.toList == ([117, 105, 100] : List UInt8)) = false := beq_eq_false_iff_ne.mpr c6
      have c6b1 : (a2.toList != ([117, 105, 100] : List UInt8)) = true := bne_iff_ne.mpr c6
      (first | rw [c6b0] | (simp only [i64_w, i32_w]; rw [c6b0]) | skip)
      by_cases c7 : a2.toList = ([101, 117, 105, 100] : List UInt8)
      · rw [if_pos c7] at H
        have c7b0 : (a2.toList == ([101, 117, 105, 100] : List UInt8)) = true := beq_iff_eq.mpr c7
        have c7b1 : (a2.toList != ([101, 117, 105, 100] : List UInt8)) = false := bne_eq_false_iff_eq.mpr c7
        clear c7
        have H' := Aside0.mk H
        clear H
        go_wp2
        go_meet
        case rel => exact ⟨_, ((a2.toList == ([101, 117, 105, 100] : List UInt8))), (by first | rfl | (simp; done) | (simp [*]; done)), H', ⟨by first | omega | exact Nat.le_refl _⟩, ⟨by repeat (first | (with_reducible first | exact HB.out | apply below_alloc | apply pw_below_drewN | apply below_drew1) | exact HB.out)⟩⟩
      · rw [if_neg c7] at H
        have c7b0 : (a2.toList == ([101, 117, 105, 100] : List UInt8)) = false := beq_eq_false_iff_ne.mpr c7
        have c7b1 : (a2.toList != ([101, 117, 105, 100] : List UInt8)) = true := bne_iff_ne.mpr c7
        by_cases c8 : a2.toList = ([97, 117, 105, 100] : List UInt8)
        · rw [if_pos c8] at H
          have c8b0 : (a2.toList == ([97, 117, 105, 100] : List UInt8)) = true := beq_iff_eq.mpr c8
          have c8b1 : (a2.toList != ([97, 117, 105, 100] : List UInt8)) = false := bne_eq_false_iff_eq.mpr c8
          clear c8
          have H' := Aside0.mk H
          clear H
          go_wp2
          go_meet
          case rel => exact ⟨_, ((a2.toList == ([97, 117, 105, 100] : List UInt8))), (by first | rfl | (simp; done) | (simp [*]; done)), H', ⟨by first | omega | exact Nat.le_refl _⟩, ⟨by repeat (first | (with_reducible first | exact HB.out | apply below_alloc | apply pw_below_drewN | apply below_drew1) | exact HB.out)⟩⟩
        · rw [if_neg c8] at H
          have c8b0 : (a2.toList == ([97, 117, 105, 100] : List UInt8)) = false := beq_eq_false_iff_ne.mpr c8
          have c8b1 : (a2.toList != ([97, 117, 105, 100] : List UInt8)) = true := bne_iff_ne.mpr c8
          have H' := Aside0.mk H
          clear H
          go_wp2
          go_meet
          case rel => exact ⟨_, ((a2.toList == ([111, 117, 105, 100] : List UInt8))), (by first | rfl | (simp; done) | (simp [*]; done)), H', ⟨by first | omega | exact Nat.le_refl _⟩, ⟨by repeat (first | (with_reducible first | exact HB.out | apply below_alloc | apply pw_below_drewN | apply below_drew1) | exact HB.out)⟩⟩
  case rest =>
    clear HC5
    try clear p2
    try clear c6
    try clear c6b0
    try clear c6b1
    try clear c7
    try clear c7b0
    try clear c7b1
    try clear c8
    try clear c8b0
    try clear c8b1
    obtain ⟨kq, x17_4, rfl, HA, HJ4, HB⟩ := hcut
    cases kq with
    | zero => exact absurd HA.out (by simp [kauditref37_special.j0])
    | succ kj4 =>
      have H := HA.out
      clear HA
      simp only [kauditref37_special.j0] at H
      by_cases c9 : x17_4 = true
      · subst c9
        have H1 : (if a3 = 4294967295 then (some (⟨#[117, 110, 115, 101, 116]⟩ : ByteArray)) else ((kauditref37_Name.f kj4 l0 1 a3 a1).bind fun bt194 => (some bt194.1))) = some r := by rw [if_pos rfl] at H; exact H
        clear H
        have H := H1
        clear H1
        by_cases c10 : a3 = 4294967295
        · rw [if_pos c10] at H
          have c10b0 : (a3 == 4294967295) = true := beq_iff_eq.mpr c10
          have c10b1 : (a3 != 4294967295) = false := bne_eq_false_iff_eq.mpr c10
          clear c10
          obtain rfl := Option.some.inj H
          go_wp2
          go_ret
          exact ⟨by first | rfl | (simp [errW_none, errW_some] <;> rfl) | (simp [*, errW_none, errW_some] <;> rfl) | (simp only [isEmpty_ne_, isEmpty_eq_]; rfl) | (simp [*, isEmpty_ne_, isEmpty_eq_]; done), by repeat (first | (with_reducible first | exact HB.out | apply below_alloc | apply pw_below_drewN | apply below_drew1) | exact HB.out)⟩
        · rw [if_neg c10] at H
          have c10b0 : (a3 == 4294967295) = false := beq_eq_false_iff_ne.mpr c10
          have c10b1 : (a3 != 4294967295) = true := bne_iff_ne.mpr c10
          replace H := Option.bind_eq_some_iff.mp H
          obtain ⟨⟨t194, t195⟩, A110, H⟩ := H
          replace H : (some t194) = some r := H
          have A11 := Aside0.mk A110
          clear A110
          obtain rfl := Option.some.inj H
          go_wp2_with (first | ((with_reducible refine gate_callee (f := 110) rfl ?_); refine goesL_ (some 28) rfl rfl Tryd.func110 (by kernel_rfl) rfl #[.slice A0 l0.length c0, .int .i64 1, .int .i64 a3, .int .i64 a1] rfl (by (try simp only [List.map_toArray, List.map_cons, List.map_nil]); first | done | rfl | (simp only [List.length_drop, List.length_take]; rfl)) ?_; (with_reducible refine (kauditref37_Name.calls kj4 _ _ l0 1 a3 a1 t194 t195 _ ?side1 ?side2 A11.out).mono ?_); (case side1 => repeat (first | exact (Kd.C_below HR0.out HB.out) | (with_reducible refine Kd.C_alloc ?_ _) | (with_reducible refine Kd.C_drewN ?_ _) | (with_reducible refine Kd.C_drew ?_))); (case side2 => exact HC0.out); rintro e w12 ⟨rfl, hb⟩; refine ⟨_, rfl, ?_⟩; have n0_ := Aside0.mk (below_step (by repeat (first | (with_reducible first | exact HB.out | apply below_alloc | apply pw_below_drewN | apply below_drew1) | exact HB.out)) hb); clear HB; have HB := n0_; clear n0_; (try clear hb); (try clear hb2); (try clear hk); (try clear hi)))
          go_ret
          exact ⟨by first | rfl | (simp [errW_none, errW_some] <;> rfl) | (simp [*, errW_none, errW_some] <;> rfl) | (simp only [isEmpty_ne_, isEmpty_eq_]; rfl) | (simp [*, isEmpty_ne_, isEmpty_eq_]; done), by repeat (first | (with_reducible first | exact HB.out | apply below_alloc | apply pw_below_drewN | apply below_drew1) | exact HB.out)⟩
      · replace c9 := Bool.eq_false_iff.mpr c9
        subst c9
        have H1 : (if a2.toList = ([103, 105, 100] : List UInt8) then (kauditref37_special.j1 kj4 l0 a1 a3 a2 (a2.toList == ([103, 105, 100] : List UInt8))) else (if a2.toList = ([101, 103, 105, 100] : List UInt8) then (kauditref37_special.j1 kj4 l0 a1 a3 a2 (a2.toList == ([101, 103, 105, 100] : List UInt8))) else (kauditref37_special.j1 kj4 l0 a1 a3 a2 (a2.toList == ([111, 103, 105, 100] : List UInt8))))) = some r := by rw [if_neg (show ¬ (false = true) by decide)] at H; exact H
        clear H
        have H := H1
        clear H1
        have HC13 := Aside0.mk H
        clear H
        go_upto_if 32 with (fail)
        go_cut [32] (fun v32 wc => ∃ (kq : Nat) (x32_12 : Bool), v32 = .bool x32_12 ∧ Aside0 (kauditref37_special.j1 kq l0 a1 a3 a2 x32_12 = some r) ∧ Aside0 (kq ≤ kj4) ∧ Aside0 (Below w.heap.size w wc))
        case first =>
          have H := HC13.out
          clear HC13
          by_cases c14 : a2.toList = ([103, 105, 100] : List UInt8)
          · rw [if_pos c14] at H
            have c14b0 : (a2.toList == ([103, 105, 100] : List UInt8)) = true := beq_iff_eq.mpr c14
            have c14b1 : (a2.toList != ([103, 105, 100] : List UInt8)) = false := bne_eq_false_iff_eq.mpr c14
            clear c14
            (first | rw [c14b0] | (simp only [i64_w, i32_w]; rw [c14b0]) | skip)
            have H' := Aside0.mk H
            clear H
            go_wp2
            go_meet
            case rel => exact ⟨_, ((a2.toList == ([103, 105, 100] : List UInt8))), (by first | rfl | (simp; done) | (simp [*]; done)), H', ⟨by have := HJ4.out; first | omega | exact Nat.le_refl _⟩, ⟨by repeat (first | (with_reducible first | exact HB.out | apply below_alloc | apply pw_below_drewN | apply below_drew1) | exact HB.out)⟩⟩
          · rw [if_neg c14] at H
            have c14b0 : (a2.toList == ([103, 105, 100] : List UInt8)) = false := beq_eq_false_iff_ne.mpr c14
            have c14b1 : (a2.toList != ([103, 105, 100] : List UInt8)) = true := bne_iff_ne.mpr c14
            (first | rw [c14b0] | (simp only [i64_w, i32_w]; rw [c14b0]) | skip)
            by_cases c15 : a2.toList = ([101, 103, 105, 100] : List UInt8)
            · rw [if_pos c15] at H
              have c15b0 : (a2.toList == ([101, 103, 105, 100] : List UInt8)) = true := beq_iff_eq.mpr c15
              have c15b1 : (a2.toList != ([101, 103, 105, 100] : List UInt8)) = false := bne_eq_false_iff_eq.mpr c15
              clear c15
              have H' := Aside0.mk H
              clear H
              go_wp2
              go_meet
              case rel => exact ⟨_, ((a2.toList == ([101, 103, 105, 100] : List UInt8))), (by first | rfl | (simp; done) | (simp [*]; done)), H', ⟨by have := HJ4.out; first | omega | exact Nat.le_refl _⟩, ⟨by repeat (first | (with_reducible first | exact HB.out | apply below_alloc | apply pw_below_drewN | apply below_drew1) | exact HB.out)⟩⟩
            · rw [if_neg c15] at H
              have c15b0 : (a2.toList == ([101, 103, 105, 100] : List UInt8)) = false := beq_eq_false_iff_ne.mpr c15
              have c15b1 : (a2.toList != ([101, 103, 105, 100] : List UInt8)) = true := bne_iff_ne.mpr c15
              have H' := Aside0.mk H
              clear H
              go_wp2
              go_meet
              case rel => exact ⟨_, ((a2.toList == ([111, 103, 105, 100] : List UInt8))), (by first | rfl | (simp; done) | (simp [*]; done)), H', ⟨by have := HJ4.out; first | omega | exact Nat.le_refl _⟩, ⟨by repeat (first | (with_reducible first | exact HB.out | apply below_alloc | apply pw_below_drewN | apply below_drew1) | exact HB.out)⟩⟩
        case rest =>
          clear HC13
          try clear c1
          try clear p2
          try clear c6
          try clear c6b0
          try clear c6b1
          try clear c7
          try clear c7b0
          try clear c7b1
          try clear c8
          try clear c8b0
          try clear c8b1
          try clear c9
          try clear c10
          try clear c10b0
          try clear c10b1
          try clear c11
          try clear c14
          try clear c14b0
          try clear c14b1
          try clear c15
          try clear c15b0
          try clear c15b1
          try clear p2
          obtain ⟨kq, x32_12, rfl, HA, HJ12, HB⟩ := hcut
          cases kq with
          | zero => exact absurd HA.out (by simp [kauditref37_special.j1])
          | succ kj12 =>
            have H := HA.out
            clear HA
            simp only [kauditref37_special.j1] at H
            by_cases c16 : x32_12 = true
            · subst c16
              have H1 : ((kauditref37_Name.f kj12 l0 2 a3 a1).bind fun bt196 => (some bt196.1)) = some r := by rw [if_pos rfl] at H; exact H
              clear H
              have H := H1
              clear H1
              replace H := Option.bind_eq_some_iff.mp H
              obtain ⟨⟨t196, t197⟩, A170, H⟩ := H
              replace H : (some t196) = some r := H
              have A17 := Aside0.mk A170
              clear A170
              obtain rfl := Option.some.inj H
              go_wp2_with (first | ((with_reducible refine gate_callee (f := 110) rfl ?_); refine goesL_ (some 40) rfl rfl Tryd.func110 (by kernel_rfl) rfl #[.slice A0 l0.length c0, .int .i64 2, .int .i64 a3, .int .i64 a1] rfl (by (try simp only [List.map_toArray, List.map_cons, List.map_nil]); first | done | rfl | (simp only [List.length_drop, List.length_take]; rfl)) ?_; (with_reducible refine (kauditref37_Name.calls kj12 _ _ l0 2 a3 a1 t196 t197 _ ?side1 ?side2 A17.out).mono ?_); (case side1 => repeat (first | exact (Kd.C_below HR0.out HB.out) | (with_reducible refine Kd.C_alloc ?_ _) | (with_reducible refine Kd.C_drewN ?_ _) | (with_reducible refine Kd.C_drew ?_))); (case side2 => exact HC0.out); rintro e w18 ⟨rfl, hb⟩; refine ⟨_, rfl, ?_⟩; have n0_ := Aside0.mk (below_step (by repeat (first | (with_reducible first | exact HB.out | apply below_alloc | apply pw_below_drewN | apply below_drew1) | exact HB.out)) hb); clear HB; have HB := n0_; clear n0_; (try clear hb); (try clear hb2); (try clear hk); (try clear hi)))
              go_ret
              exact ⟨by first | rfl | (simp [errW_none, errW_some] <;> rfl) | (simp [*, errW_none, errW_some] <;> rfl) | (simp only [isEmpty_ne_, isEmpty_eq_]; rfl) | (simp [*, isEmpty_ne_, isEmpty_eq_]; done), by repeat (first | (with_reducible first | exact HB.out | apply below_alloc | apply pw_below_drewN | apply below_drew1) | exact HB.out)⟩
            · replace c16 := Bool.eq_false_iff.mpr c16
              subst c16
              have H1 : (if a2.toList = ([115, 101, 115] : List UInt8) then (if a3 = 4294967295 then (some (⟨#[117, 110, 115, 101, 116]⟩ : ByteArray)) else (some (⟨#[]⟩ : ByteArray))) else (if a2.toList = ([101, 120, 105, 116] : List UInt8) then (if a3 < 0 then (if (wrap64 (-a3)) > 0 then ((kauditref37_ErrorName.f kj12 (wrap64 (-a3))).bind fun t198 => (if t198.toList = ([] : List UInt8) then (some (⟨#[]⟩ : ByteArray)) else ((kauditref37_ErrorName.f kj12 (wrap64 (-a3))).bind fun t199 => (if 1 + t199.size ≤ 9223372036854775807 then (some ((⟨#[45]⟩ : ByteArray) ++ t199)) else (none))))) else (some (⟨#[]⟩ : ByteArray))) else (some (⟨#[]⟩ : ByteArray))) else (if a2.toList = ([109, 111, 100, 101] : List UInt8) then ((kauditref08_Format.f kj12 a3).bind fun t200 => (some t200)) else (if a2.toList = ([112, 101, 114, 109] : List UInt8) then ((some (([(⟨#[114]⟩ : ByteArray), (⟨#[119]⟩ : ByteArray), (⟨#[120]⟩ : ByteArray), (⟨#[97]⟩ : ByteArray)] : List ByteArray) : List ByteArray)).bind fun y201 => (kauditref37_special.l0 kj12 a3 (⟨#[]⟩ : ByteArray) y201 (y201.length : Int) 0)) else (some (⟨#[]⟩ : ByteArray)))))) = some r := by rw [if_neg (show ¬ (false = true) by decide)] at H; exact H
              clear H
              have H := H1
              clear H1
              by_cases c19 : a2.toList = ([115, 101, 115] : List UInt8)
              · rw [if_pos c19] at H
                have c19b0 : (a2.toList == ([115, 101, 115] : List UInt8)) = true := beq_iff_eq.mpr c19
                have c19b1 : (a2.toList != ([115, 101, 115] : List UInt8)) = false := bne_eq_false_iff_eq.mpr c19
                clear c19
                by_cases c20 : a3 = 4294967295
                · rw [if_pos c20] at H
                  have c20b0 : (a3 == 4294967295) = true := beq_iff_eq.mpr c20
                  have c20b1 : (a3 != 4294967295) = false := bne_eq_false_iff_eq.mpr c20
                  clear c20
                  obtain rfl := Option.some.inj H
                  go_wp2
                  go_ret
                  exact ⟨by first | rfl | (simp [errW_none, errW_some] <;> rfl) | (simp [*, errW_none, errW_some] <;> rfl) | (simp only [isEmpty_ne_, isEmpty_eq_]; rfl) | (simp [*, isEmpty_ne_, isEmpty_eq_]; done), by repeat (first | (with_reducible first | exact HB.out | apply below_alloc | apply pw_below_drewN | apply below_drew1) | exact HB.out)⟩
                · rw [if_neg c20] at H
                  have c20b0 : (a3 == 4294967295) = false := beq_eq_false_iff_ne.mpr c20
                  have c20b1 : (a3 != 4294967295) = true := bne_iff_ne.mpr c20
                  obtain rfl := Option.some.inj H
                  go_wp2
                  go_ret
                  exact ⟨by first | rfl | (simp [errW_none, errW_some] <;> rfl) | (simp [*, errW_none, errW_some] <;> rfl) | (simp only [isEmpty_ne_, isEmpty_eq_]; rfl) | (simp [*, isEmpty_ne_, isEmpty_eq_]; done), by repeat (first | (with_reducible first | exact HB.out | apply below_alloc | apply pw_below_drewN | apply below_drew1) | exact HB.out)⟩
              · rw [if_neg c19] at H
                have c19b0 : (a2.toList == ([115, 101, 115] : List UInt8)) = false := beq_eq_false_iff_ne.mpr c19
                have c19b1 : (a2.toList != ([115, 101, 115] : List UInt8)) = true := bne_iff_ne.mpr c19
                by_cases c21 : a2.toList = ([101, 120, 105, 116] : List UInt8)
                · rw [if_pos c21] at H
                  have c21b0 : (a2.toList == ([101, 120, 105, 116] : List UInt8)) = true := beq_iff_eq.mpr c21
                  have c21b1 : (a2.toList != ([101, 120, 105, 116] : List UInt8)) = false := bne_eq_false_iff_eq.mpr c21
                  clear c21
                  by_cases c22 : a3 < 0
                  · rw [if_pos c22] at H
                    have c22b0 : decide (a3 < 0) = true := decide_eq_true c22
                    clear c22
                    by_cases c23 : (wrap64 (-a3)) > 0
                    · rw [if_pos c23] at H
                      have c23b0 : decide (0 < (wrap64 (-a3))) = true := decide_eq_true c23
                      clear c23
                      replace H := Option.bind_eq_some_iff.mp H
                      obtain ⟨t198, A240, H⟩ := H
                      replace H : (if t198.toList = ([] : List UInt8) then (some (⟨#[]⟩ : ByteArray)) else ((kauditref37_ErrorName.f kj12 (wrap64 (-a3))).bind fun t199 => (if 1 + t199.size ≤ 9223372036854775807 then (some ((⟨#[45]⟩ : ByteArray) ++ t199)) else (none)))) = some r := H
                      have A24 := Aside0.mk A240
                      clear A240
                      by_cases c25 : t198.toList = ([] : List UInt8)
                      · rw [if_pos c25] at H
                        have c25b0 : (t198.toList == ([] : List UInt8)) = true := beq_iff_eq.mpr c25
                        have c25b1 : (t198.toList != ([] : List UInt8)) = false := bne_eq_false_iff_eq.mpr c25
                        clear c25
                        obtain rfl := Option.some.inj H
                        go_wp2_with (first | (go_at_call 28; (with_reducible refine (kauditref37_ErrorName.calls kj12 (wrap64 (-a3)) t198 _ A24.out).mono ?_); rintro e w26 ⟨rfl, hb⟩; have n0_ := Aside0.mk (below_step (by repeat (first | (with_reducible first | exact HB.out | apply below_alloc | apply pw_below_drewN | apply below_drew1) | exact HB.out)) hb); clear HB; have HB := n0_; clear n0_; (try clear hb); (try clear hb2); (try clear hk); (try clear hi)))
                        go_ret
                        exact ⟨by first | rfl | (simp [errW_none, errW_some] <;> rfl) | (simp [*, errW_none, errW_some] <;> rfl) | (simp only [isEmpty_ne_, isEmpty_eq_]; rfl) | (simp [*, isEmpty_ne_, isEmpty_eq_]; done), by repeat (first | (with_reducible first | exact HB.out | apply below_alloc | apply pw_below_drewN | apply below_drew1) | exact HB.out)⟩
                      · rw [if_neg c25] at H
                        have c25b0 : (t198.toList == ([] : List UInt8)) = false := beq_eq_false_iff_ne.mpr c25
                        have c25b1 : (t198.toList != ([] : List UInt8)) = true := bne_iff_ne.mpr c25
                        replace H := Option.bind_eq_some_iff.mp H
                        obtain ⟨t199, A270, H⟩ := H
                        replace H : (if 1 + t199.size ≤ 9223372036854775807 then (some ((⟨#[45]⟩ : ByteArray) ++ t199)) else (none)) = some r := H
                        have A27 := Aside0.mk A270
                        clear A270
                        by_cases c28 : 1 + t199.size ≤ 9223372036854775807
                        · rw [if_pos c28] at H
                          have c28b0 := eq_true c28
                          have c28b1 : decide (1 + t199.size ≤ 9223372036854775807) = true := decide_eq_true c28
                          try have c28b2 : (9223372036854775807 < 1 + t199.size) = False := eq_false (Nat.not_lt.2 c28)
                          obtain rfl := Option.some.inj H
                          go_wp2_with (first | (go_at_call 28; (with_reducible refine (kauditref37_ErrorName.calls kj12 (wrap64 (-a3)) t198 _ A24.out).mono ?_); rintro e w29 ⟨rfl, hb⟩; have n0_ := Aside0.mk (below_step (by repeat (first | (with_reducible first | exact HB.out | apply below_alloc | apply pw_below_drewN | apply below_drew1) | exact HB.out)) hb); clear HB; have HB := n0_; clear n0_; (try clear hb); (try clear hb2); (try clear hk); (try clear hi)) | ((with_reducible refine gate_callee (f := 28) rfl ?_); refine goesL_ (some 65) rfl rfl Tryd.func28 (by kernel_rfl) rfl #[.int .i64 (wrap64 (-a3))] rfl (by (try simp only [List.map_toArray, List.map_cons, List.map_nil]); first | done | rfl | (simp only [List.length_drop, List.length_take]; rfl)) ?_; (with_reducible refine (kauditref37_ErrorName.calls kj12 (wrap64 (-a3)) t199 _ A27.out).mono ?_); rintro e w30 ⟨rfl, hb⟩; refine ⟨_, rfl, ?_⟩; have n0_ := Aside0.mk (below_step (by repeat (first | (with_reducible first | exact HB.out | apply below_alloc | apply pw_below_drewN | apply below_drew1) | exact HB.out)) hb); clear HB; have HB := n0_; clear n0_; (try clear hb); (try clear hb2); (try clear hk); (try clear hi)))
                          go_ret
                          exact ⟨by first | rfl | (simp [errW_none, errW_some] <;> rfl) | (simp [*, errW_none, errW_some] <;> rfl) | (simp only [isEmpty_ne_, isEmpty_eq_]; rfl) | (simp [*, isEmpty_ne_, isEmpty_eq_]; done), by repeat (first | (with_reducible first | exact HB.out | apply below_alloc | apply pw_below_drewN | apply below_drew1) | exact HB.out)⟩
                        · rw [if_neg c28] at H
                          exact absurd H (by simp)
                    · rw [if_neg c23] at H
                      have c23b0 : decide (0 < (wrap64 (-a3))) = false := decide_eq_false c23
                      clear c23
                      obtain rfl := Option.some.inj H
                      go_wp2
                      go_ret
                      exact ⟨by first | rfl | (simp [errW_none, errW_some] <;> rfl) | (simp [*, errW_none, errW_some] <;> rfl) | (simp only [isEmpty_ne_, isEmpty_eq_]; rfl) | (simp [*, isEmpty_ne_, isEmpty_eq_]; done), by repeat (first | (with_reducible first | exact HB.out | apply below_alloc | apply pw_below_drewN | apply below_drew1) | exact HB.out)⟩
                  · rw [if_neg c22] at H
                    have c22b0 : decide (a3 < 0) = false := decide_eq_false c22
                    clear c22
                    obtain rfl := Option.some.inj H
                    go_wp2
                    go_ret
                    exact ⟨by first | rfl | (simp [errW_none, errW_some] <;> rfl) | (simp [*, errW_none, errW_some] <;> rfl) | (simp only [isEmpty_ne_, isEmpty_eq_]; rfl) | (simp [*, isEmpty_ne_, isEmpty_eq_]; done), by repeat (first | (with_reducible first | exact HB.out | apply below_alloc | apply pw_below_drewN | apply below_drew1) | exact HB.out)⟩
                · rw [if_neg c21] at H
                  have c21b0 : (a2.toList == ([101, 120, 105, 116] : List UInt8)) = false := beq_eq_false_iff_ne.mpr c21
                  have c21b1 : (a2.toList != ([101, 120, 105, 116] : List UInt8)) = true := bne_iff_ne.mpr c21
                  by_cases c31 : a2.toList = ([109, 111, 100, 101] : List UInt8)
                  · rw [if_pos c31] at H
                    have c31b0 : (a2.toList == ([109, 111, 100, 101] : List UInt8)) = true := beq_iff_eq.mpr c31
                    have c31b1 : (a2.toList != ([109, 111, 100, 101] : List UInt8)) = false := bne_eq_false_iff_eq.mpr c31
                    clear c31
                    replace H := Option.bind_eq_some_iff.mp H
                    obtain ⟨t200, A320, H⟩ := H
                    replace H : (some t200) = some r := H
                    have A32 := Aside0.mk A320
                    clear A320
                    obtain rfl := Option.some.inj H
                    go_wp2_with (first | ((with_reducible refine gate_callee (f := 111) rfl ?_); refine goesL_ (some 70) rfl rfl Tryd.func111 (by kernel_rfl) rfl #[.int .i64 a3] rfl (by (try simp only [List.map_toArray, List.map_cons, List.map_nil]); first | done | rfl | (simp only [List.length_drop, List.length_take]; rfl)) ?_; (with_reducible refine (kauditref08_Format.calls kj12 a3 t200 _ A32.out).mono ?_); rintro e w' ⟨rfl, ⟨nd, rfl⟩⟩; refine ⟨_, rfl, ?_⟩))
                    go_ret
                    exact ⟨by first | rfl | (simp [errW_none, errW_some] <;> rfl) | (simp [*, errW_none, errW_some] <;> rfl) | (simp only [isEmpty_ne_, isEmpty_eq_]; rfl) | (simp [*, isEmpty_ne_, isEmpty_eq_]; done), by repeat (first | (with_reducible first | exact HB.out | apply below_alloc | apply pw_below_drewN | apply below_drew1) | exact HB.out)⟩
                  · rw [if_neg c31] at H
                    have c31b0 : (a2.toList == ([109, 111, 100, 101] : List UInt8)) = false := beq_eq_false_iff_ne.mpr c31
                    have c31b1 : (a2.toList != ([109, 111, 100, 101] : List UInt8)) = true := bne_iff_ne.mpr c31
                    by_cases c33 : a2.toList = ([112, 101, 114, 109] : List UInt8)
                    · rw [if_pos c33] at H
                      have c33b0 : (a2.toList == ([112, 101, 114, 109] : List UInt8)) = true := beq_iff_eq.mpr c33
                      have c33b1 : (a2.toList != ([112, 101, 114, 109] : List UInt8)) = false := bne_eq_false_iff_eq.mpr c33
                      clear c33
                      obtain ⟨y201, hy201⟩ : ∃ y_ : List ByteArray, y_ = (([(⟨#[114]⟩ : ByteArray), (⟨#[119]⟩ : ByteArray), (⟨#[120]⟩ : ByteArray), (⟨#[97]⟩ : ByteArray)] : List ByteArray)) := ⟨_, rfl⟩
                      replace H : (kauditref37_special.l0 kj12 a3 (⟨#[]⟩ : ByteArray) y201 (y201.length : Int) 0) = some r := by first | (rw [hy201]; with_reducible exact H) | (have H2_ := (Option.bind_some _ _).symm.trans H; rw [hy201]; with_reducible exact H2_) | (have H2_ := (Option.bind_some _ _).symm.trans H; with_reducible exact H2_) | with_reducible exact H | (rw [hy201]; exact H) | exact H
                      have Ny201 := Aside0.mk hy201
                      clear hy201
                      have H' := Aside0.mk H
                      clear H
                      go_wp2_with (first | ((with_reducible refine gate_dst (N := 73) rfl ?_); (try (refine gate_guard (by rfl) ?_; dsimp only)); refine Kd.R_lit Kd.string _ 9 ?hg (N := 73) ?hd (xs := ([(⟨#[114]⟩ : ByteArray), (⟨#[119]⟩ : ByteArray), (⟨#[120]⟩ : ByteArray), (⟨#[97]⟩ : ByteArray)] : List ByteArray)) (inner := [.string (⟨#[114]⟩ : ByteArray), .string (⟨#[119]⟩ : ByteArray), .string (⟨#[120]⟩ : ByteArray), .string (⟨#[97]⟩ : ByteArray)]) (ok := fun _ => True) (okp := fun _ => True) ?hr ?hp (fun _ hk => hk) trivial (Below.refl _ _) (Nat.le_refl _) (by simp) ?_; (case hd => rfl); (case hg => rfl); (case hr => first | (go_simp; done) | (go_simp; rfl)); (case hp => exact (Reps.one (show Kd.M Kd.string _ _ _ (⟨#[114]⟩ : ByteArray) [.string (⟨#[114]⟩ : ByteArray)] from rfl) (Reps.one (show Kd.M Kd.string _ _ _ (⟨#[119]⟩ : ByteArray) [.string (⟨#[119]⟩ : ByteArray)] from rfl) (Reps.one (show Kd.M Kd.string _ _ _ (⟨#[120]⟩ : ByteArray) [.string (⟨#[120]⟩ : ByteArray)] from rfl) (Reps.one (show Kd.M Kd.string _ _ _ (⟨#[97]⟩ : ByteArray) [.string (⟨#[97]⟩ : ByteArray)] from rfl) (Reps.none _ _)))))); intro v202 w34 ho35 hb hg_ hnew_; clear hg_ hnew_; (first | rw [← Ny201.out] at ho35 | (simp only [Int.reduceToNat] at ho35; rw [← Ny201.out] at ho35)); have n0_ := Aside0.mk (Kd.R_lower ho35 (below_size (by repeat (first | (with_reducible first | exact HB.out | apply below_alloc | apply pw_below_drewN | apply below_drew1) | exact HB.out)))); have n1_ := Aside0.mk (below_step (by repeat (first | (with_reducible first | exact HB.out | apply below_alloc | apply pw_below_drewN | apply below_drew1) | exact HB.out)) hb); clear HB; have HO203 := n0_; have HB := n1_; clear n0_ n1_; clear hb ho35; obtain ⟨Ao36, co36, eo36⟩ := Kd.R_slice HO203.out; subst eo36))
                      go_loopg [13, 75] kj12 (fun kq v13 v75 w' => ∃ (x13_3 : ByteArray) (x75_3 : Int), v13 = .string x13_3 ∧ v75 = .int .i64 x75_3 ∧ Aside0 (kauditref37_special.l0 kq a3 x13_3 y201 (y201.length : Int) x75_3 = some r) ∧ Aside0 (kq ≤ kj12) ∧ Aside0 (Kd.R Kd.string 9 w' w.heap.size (fun _ => True) (.slice Ao36 y201.length co36) y201) ∧ Aside0 (Below w.heap.size w w'))
                      case atStart => exact ⟨((⟨#[]⟩ : ByteArray)), (0), (by first | rfl | (simp; done) | (simp [*]; done)), (by first | rfl | (simp; done) | (simp [*]; done)), H', ⟨Nat.le_refl _⟩, ⟨by (with_reducible repeat (first | apply Kd.R_alloc | apply Kd.R_drewN | apply Kd.R_drew)); exact HO203.out⟩, ⟨by repeat (first | (with_reducible first | exact HB.out | apply below_alloc | apply pw_below_drewN | apply below_drew1) | exact HB.out)⟩⟩
                      case round =>
                        clear H'
                        try clear c1
                        try clear c2
                        try clear p2
                        try clear c3
                        try clear c6
                        try clear c6b0
                        try clear c6b1
                        try clear p6
                        try clear c7
                        try clear c7b0
                        try clear c7b1
                        try clear c8
                        try clear c8b0
                        try clear c8b1
                        try clear c9
                        try clear c10
                        try clear c10b0
                        try clear c10b1
                        try clear c11
                        try clear c14
                        try clear c14b0
                        try clear c14b1
                        try clear c15
                        try clear c15b0
                        try clear c15b1
                        try clear c16
                        try clear c19
                        try clear c19b0
                        try clear c19b1
                        try clear c20
                        try clear c20b0
                        try clear c20b1
                        try clear c21
                        try clear c21b0
                        try clear c21b1
                        try clear c22
                        try clear c22b0
                        try clear c23
                        try clear c23b0
                        try clear c25
                        try clear c25b0
                        try clear c25b1
                        try clear c28
                        try clear c28b0
                        try clear c28b1
                        try clear c28b2
                        try clear c31
                        try clear c31b0
                        try clear c31b1
                        try clear c33
                        try clear c33b0
                        try clear c33b1
                        try clear p2
                        obtain ⟨x13_3, x75_3, rfl, rfl, HA, HK3, HO_73, HB⟩ := hrel
                        cases gk with
                        | zero => exact absurd HA.out (by simp [kauditref37_special.l0])
                        | succ k3 =>
                          have H := HA.out
                          clear HA
                          simp only [kauditref37_special.l0] at H
                          by_cases c37 : x75_3 < (y201.length : Int)
                          · rw [if_pos c37] at H
                            have c37b0 : decide (x75_3 < (y201.length : Int)) = true := decide_eq_true c37
                            clear c37
                            by_cases c38 : 0 ≤ x75_3
                            · rw [if_pos c38] at H
                              have c38b0 : decide (0 ≤ x75_3) = true := decide_eq_true c38
                              clear c38
                              by_cases c39 : x75_3 < (y201.length : Int)
                              · rw [if_pos c39] at H
                                have c39b0 : decide (x75_3 < (y201.length : Int)) = true := decide_eq_true c39
                                clear c39
                                by_cases c40 : a3 ≥ 1
                                · rw [if_pos c40] at H
                                  have c40b0 : decide (1 ≤ a3) = true := decide_eq_true c40
                                  clear c40
                                  by_cases c41 : a3 ≤ 15
                                  · rw [if_pos c41] at H
                                    have c41b0 : decide (a3 ≤ 15) = true := decide_eq_true c41
                                    clear c41
                                    obtain ⟨y205, hy205⟩ : ∃ y_ : List Int, y_ = (([4, 2, 1, 8] : List Int)) := ⟨_, rfl⟩
                                    replace H : (if x75_3 < (y205.length : Int) then (if (Go.bits .and .i64 a3 (rd y205 x75_3)) = 0 then (kauditref37_special.l0 k3 a3 x13_3 y201 (y201.length : Int) (wrap64 (x75_3 + 1))) else (if x13_3.size + (rdOf ByteArray.empty y201 x75_3).size ≤ 9223372036854775807 then (kauditref37_special.l0 k3 a3 (x13_3 ++ (rdOf ByteArray.empty y201 x75_3)) y201 (y201.length : Int) (wrap64 (x75_3 + 1))) else (none))) else (none)) = some r := by first | (rw [hy205]; with_reducible exact H) | (have H2_ := (Option.bind_some _ _).symm.trans H; rw [hy205]; with_reducible exact H2_) | (have H2_ := (Option.bind_some _ _).symm.trans H; with_reducible exact H2_) | with_reducible exact H | (rw [hy205]; exact H) | exact H
                                    have Ny205 := Aside0.mk hy205
                                    clear hy205
                                    by_cases c42 : x75_3 < (y205.length : Int)
                                    · rw [if_pos c42] at H
                                      have c42b0 : decide (x75_3 < (y205.length : Int)) = true := decide_eq_true c42
                                      clear c42
                                      by_cases c43 : (Go.bits .and .i64 a3 (rd y205 x75_3)) = 0
                                      · rw [if_pos c43] at H
                                        have c43b0 : ((Go.bits .and .i64 a3 (rd y205 x75_3)) == 0) = true := beq_iff_eq.mpr c43
                                        have c43b1 : ((Go.bits .and .i64 a3 (rd y205 x75_3)) != 0) = false := bne_eq_false_iff_eq.mpr c43
                                        clear c43
                                        have H' := Aside0.mk H
                                        clear H
                                        have p204 : 0 ≤ (x75_3 : Int) := of_decide_eq_true (by first | (with_reducible assumption) | assumption)
                                        have q204 : x75_3 < (y201.length : Int) := of_decide_eq_true (by first | (with_reducible assumption) | assumption)
                                        obtain ⟨ad204, e204, hx204_0⟩ := Kd.at_string (Kd.R_reads' HO_73.out).2.2 x75_3 p204 q204
                                        cases e204
                                        replace p204 := eq_true p204
                                        replace q204 := eq_true q204
                                        go_wp2_with (first | ((with_reducible refine gate_dst (N := 88) rfl ?_); (try (refine gate_guard (by rfl) ?_; dsimp only)); refine Kd.R_lit (Kd.int .i64) _ 3 ?hg (N := 88) ?hd (xs := ([4, 2, 1, 8] : List Int)) (inner := [.int .i64 4, .int .i64 2, .int .i64 1, .int .i64 8]) (ok := fun _ => True) (okp := fun _ => True) ?hr ?hp (fun _ hk => hk) trivial (Below.refl _ _) (Nat.le_refl _) (by simp) ?_; (case hd => rfl); (case hg => rfl); (case hr => first | (go_simp; done) | (go_simp; rfl)); (case hp => exact (Reps.one (show Kd.M (Kd.int .i64) _ _ _ 4 [.int .i64 4] from rfl) (Reps.one (show Kd.M (Kd.int .i64) _ _ _ 2 [.int .i64 2] from rfl) (Reps.one (show Kd.M (Kd.int .i64) _ _ _ 1 [.int .i64 1] from rfl) (Reps.one (show Kd.M (Kd.int .i64) _ _ _ 8 [.int .i64 8] from rfl) (Reps.none _ _)))))); intro v206 w44 ho45 hb hg_ hnew_; clear hg_ hnew_; (first | rw [← Ny205.out] at ho45 | (simp only [Int.reduceToNat] at ho45; rw [← Ny205.out] at ho45)); have n0_ := Aside0.mk (Kd.R_below (by (with_reducible repeat (first | apply Kd.R_alloc | apply Kd.R_drewN | apply Kd.R_drew)); exact HO_73.out) hb); have n1_ := Aside0.mk (Kd.R_lower ho45 (below_size (by repeat (first | (with_reducible first | exact HB.out | apply below_alloc | apply pw_below_drewN | apply below_drew1) | exact HB.out)))); have n2_ := Aside0.mk (below_step (by repeat (first | (with_reducible first | exact HB.out | apply below_alloc | apply pw_below_drewN | apply below_drew1) | exact HB.out)) hb); clear HO_73; clear HB; have HO_73 := n0_; have HO207 := n1_; have HB := n2_; clear n0_ n1_ n2_; clear hb ho45; obtain ⟨Ao46, co46, eo46⟩ := Kd.R_slice HO207.out; subst eo46; have p208 : 0 ≤ (x75_3 : Int) := of_decide_eq_true (by first | (with_reducible assumption) | assumption); have q208 : x75_3 < (y205.length : Int) := of_decide_eq_true (by first | (with_reducible assumption) | assumption); obtain ⟨ad208, e208, hx208_0⟩ := Kd.at_int (Kd.R_reads' HO207.out).2.2 x75_3 p208 q208; cases e208; replace p208 := eq_true p208; replace q208 := eq_true q208))
                                        go_roundg k3
                                        case measure => have := HJ4.out; have := HJ12.out; have := HK3.out; omega
                                        case rel => exact ⟨(x13_3), (wrap64 (x75_3 + 1)), (by first | rfl | (simp; done) | (simp [*]; done)), (by first | rfl | (simp; done) | (simp [*]; done)), H', ⟨by have := HJ4.out; have := HJ12.out; have := HK3.out; omega⟩, ⟨by (with_reducible repeat (first | apply Kd.R_alloc | apply Kd.R_drewN | apply Kd.R_drew)); exact HO_73.out⟩, ⟨by repeat (first | (with_reducible first | exact HB.out | apply below_alloc | apply pw_below_drewN | apply below_drew1) | exact HB.out)⟩⟩
                                      · rw [if_neg c43] at H
                                        have c43b0 : ((Go.bits .and .i64 a3 (rd y205 x75_3)) == 0) = false := beq_eq_false_iff_ne.mpr c43
                                        have c43b1 : ((Go.bits .and .i64 a3 (rd y205 x75_3)) != 0) = true := bne_iff_ne.mpr c43
                                        by_cases c47 : x13_3.size + (rdOf ByteArray.empty y201 x75_3).size ≤ 9223372036854775807
                                        · rw [if_pos c47] at H
                                          have c47b0 := eq_true c47
                                          have c47b1 : decide (x13_3.size + (rdOf ByteArray.empty y201 x75_3).size ≤ 9223372036854775807) = true := decide_eq_true c47
                                          try have c47b2 : (9223372036854775807 < x13_3.size + (rdOf ByteArray.empty y201 x75_3).size) = False := eq_false (Nat.not_lt.2 c47)
                                          have H' := Aside0.mk H
                                          clear H
                                          have p204 : 0 ≤ (x75_3 : Int) := of_decide_eq_true (by first | (with_reducible assumption) | assumption)
                                          have q204 : x75_3 < (y201.length : Int) := of_decide_eq_true (by first | (with_reducible assumption) | assumption)
                                          obtain ⟨ad204, e204, hx204_0⟩ := Kd.at_string (Kd.R_reads' HO_73.out).2.2 x75_3 p204 q204
                                          cases e204
                                          replace p204 := eq_true p204
                                          replace q204 := eq_true q204
                                          go_wp2_with (first | ((with_reducible refine gate_dst (N := 88) rfl ?_); (try (refine gate_guard (by rfl) ?_; dsimp only)); refine Kd.R_lit (Kd.int .i64) _ 3 ?hg (N := 88) ?hd (xs := ([4, 2, 1, 8] : List Int)) (inner := [.int .i64 4, .int .i64 2, .int .i64 1, .int .i64 8]) (ok := fun _ => True) (okp := fun _ => True) ?hr ?hp (fun _ hk => hk) trivial (Below.refl _ _) (Nat.le_refl _) (by simp) ?_; (case hd => rfl); (case hg => rfl); (case hr => first | (go_simp; done) | (go_simp; rfl)); (case hp => exact (Reps.one (show Kd.M (Kd.int .i64) _ _ _ 4 [.int .i64 4] from rfl) (Reps.one (show Kd.M (Kd.int .i64) _ _ _ 2 [.int .i64 2] from rfl) (Reps.one (show Kd.M (Kd.int .i64) _ _ _ 1 [.int .i64 1] from rfl) (Reps.one (show Kd.M (Kd.int .i64) _ _ _ 8 [.int .i64 8] from rfl) (Reps.none _ _)))))); intro v206 w48 ho49 hb hg_ hnew_; clear hg_ hnew_; (first | rw [← Ny205.out] at ho49 | (simp only [Int.reduceToNat] at ho49; rw [← Ny205.out] at ho49)); have n0_ := Aside0.mk (Kd.R_below (by (with_reducible repeat (first | apply Kd.R_alloc | apply Kd.R_drewN | apply Kd.R_drew)); exact HO_73.out) hb); have n1_ := Aside0.mk (Kd.R_lower ho49 (below_size (by repeat (first | (with_reducible first | exact HB.out | apply below_alloc | apply pw_below_drewN | apply below_drew1) | exact HB.out)))); have n2_ := Aside0.mk (below_step (by repeat (first | (with_reducible first | exact HB.out | apply below_alloc | apply pw_below_drewN | apply below_drew1) | exact HB.out)) hb); clear HO_73; clear HB; have HO_73 := n0_; have HO207 := n1_; have HB := n2_; clear n0_ n1_ n2_; clear hb ho49; obtain ⟨Ao50, co50, eo50⟩ := Kd.R_slice HO207.out; subst eo50; have p208 : 0 ≤ (x75_3 : Int) := of_decide_eq_true (by first | (with_reducible assumption) | assumption); have q208 : x75_3 < (y205.length : Int) := of_decide_eq_true (by first | (with_reducible assumption) | assumption); obtain ⟨ad208, e208, hx208_0⟩ := Kd.at_int (Kd.R_reads' HO207.out).2.2 x75_3 p208 q208; cases e208; replace p208 := eq_true p208; replace q208 := eq_true q208))
                                          go_roundg k3
                                          case measure => have := HJ4.out; have := HJ12.out; have := HK3.out; omega
                                          case rel => exact ⟨(x13_3 ++ (rdOf ByteArray.empty y201 x75_3)), (wrap64 (x75_3 + 1)), (by first | rfl | (simp; done) | (simp [*]; done)), (by first | rfl | (simp; done) | (simp [*]; done)), H', ⟨by have := HJ4.out; have := HJ12.out; have := HK3.out; omega⟩, ⟨by (with_reducible repeat (first | apply Kd.R_alloc | apply Kd.R_drewN | apply Kd.R_drew)); exact HO_73.out⟩, ⟨by repeat (first | (with_reducible first | exact HB.out | apply below_alloc | apply pw_below_drewN | apply below_drew1) | exact HB.out)⟩⟩
                                        · rw [if_neg c47] at H
                                          exact absurd H (by simp)
                                    · rw [if_neg c42] at H
                                      exact absurd H (by simp)
                                  · rw [if_neg c41] at H
                                    have c41b0 : decide (a3 ≤ 15) = false := decide_eq_false c41
                                    clear c41
                                    have H' := Aside0.mk H
                                    clear H
                                    have p204 : 0 ≤ (x75_3 : Int) := of_decide_eq_true (by first | (with_reducible assumption) | assumption)
                                    have q204 : x75_3 < (y201.length : Int) := of_decide_eq_true (by first | (with_reducible assumption) | assumption)
                                    obtain ⟨ad204, e204, hx204_0⟩ := Kd.at_string (Kd.R_reads' HO_73.out).2.2 x75_3 p204 q204
                                    cases e204
                                    replace p204 := eq_true p204
                                    replace q204 := eq_true q204
                                    go_wp2
                                    go_roundg k3
                                    case measure => have := HJ4.out; have := HJ12.out; have := HK3.out; omega
                                    case rel => exact ⟨(x13_3), (wrap64 (x75_3 + 1)), (by first | rfl | (simp; done) | (simp [*]; done)), (by first | rfl | (simp; done) | (simp [*]; done)), H', ⟨by have := HJ4.out; have := HJ12.out; have := HK3.out; omega⟩, ⟨by (with_reducible repeat (first | apply Kd.R_alloc | apply Kd.R_drewN | apply Kd.R_drew)); exact HO_73.out⟩, ⟨by repeat (first | (with_reducible first | exact HB.out | apply below_alloc | apply pw_below_drewN | apply below_drew1) | exact HB.out)⟩⟩
                                · rw [if_neg c40] at H
                                  have c40b0 : decide (1 ≤ a3) = false := decide_eq_false c40
                                  clear c40
                                  have H' := Aside0.mk H
                                  clear H
                                  have p204 : 0 ≤ (x75_3 : Int) := of_decide_eq_true (by first | (with_reducible assumption) | assumption)
                                  have q204 : x75_3 < (y201.length : Int) := of_decide_eq_true (by first | (with_reducible assumption) | assumption)
                                  obtain ⟨ad204, e204, hx204_0⟩ := Kd.at_string (Kd.R_reads' HO_73.out).2.2 x75_3 p204 q204
                                  cases e204
                                  replace p204 := eq_true p204
                                  replace q204 := eq_true q204
                                  go_wp2
                                  go_roundg k3
                                  case measure => have := HJ4.out; have := HJ12.out; have := HK3.out; omega
                                  case rel => exact ⟨(x13_3), (wrap64 (x75_3 + 1)), (by first | rfl | (simp; done) | (simp [*]; done)), (by first | rfl | (simp; done) | (simp [*]; done)), H', ⟨by have := HJ4.out; have := HJ12.out; have := HK3.out; omega⟩, ⟨by (with_reducible repeat (first | apply Kd.R_alloc | apply Kd.R_drewN | apply Kd.R_drew)); exact HO_73.out⟩, ⟨by repeat (first | (with_reducible first | exact HB.out | apply below_alloc | apply pw_below_drewN | apply below_drew1) | exact HB.out)⟩⟩
                              · rw [if_neg c39] at H
                                exact absurd H (by simp)
                            · rw [if_neg c38] at H
                              exact absurd H (by simp)
                          · rw [if_neg c37] at H
                            have c37b0 : decide (x75_3 < (y201.length : Int)) = false := decide_eq_false c37
                            clear c37
                            obtain rfl := Option.some.inj H
                            go_wp2
                            go_ret
                            exact ⟨by first | rfl | (simp [errW_none, errW_some] <;> rfl) | (simp [*, errW_none, errW_some] <;> rfl) | (simp only [isEmpty_ne_, isEmpty_eq_]; rfl) | (simp [*, isEmpty_ne_, isEmpty_eq_]; done), by repeat (first | (with_reducible first | exact HB.out | apply below_alloc | apply pw_below_drewN | apply below_drew1) | exact HB.out)⟩
                    · rw [if_neg c33] at H
                      have c33b0 : (a2.toList == ([112, 101, 114, 109] : List UInt8)) = false := beq_eq_false_iff_ne.mpr c33
                      have c33b1 : (a2.toList != ([112, 101, 114, 109] : List UInt8)) = true := bne_iff_ne.mpr c33
                      obtain rfl := Option.some.inj H
                      go_wp2
                      go_ret
                      exact ⟨by first | rfl | (simp [errW_none, errW_some] <;> rfl) | (simp [*, errW_none, errW_some] <;> rfl) | (simp only [isEmpty_ne_, isEmpty_eq_]; rfl) | (simp [*, isEmpty_ne_, isEmpty_eq_]; done), by repeat (first | (with_reducible first | exact HB.out | apply below_alloc | apply pw_below_drewN | apply below_drew1) | exact HB.out)⟩

/-! ### kauditref37_Interpret: function 24 -/
def kauditref37_Interpret.f (k : Nat) (l0 : List (S47)) (a1 : Int) (a2_0 : ByteArray) (a2_1 : Int) (a2_2 : Int) (a2_3 : ByteArray) : Option (ByteArray) := if a2_1 = 1 then ((kauditref37_special.f k l0 a1 a2_0 a2_2).bind fun t210 => (if t210.toList = ([] : List UInt8) then ((kauditref37_Plain.f a2_0 a2_1 a2_2 a2_3).bind fun t211 => (some t211)) else (some t210))) else ((kauditref37_Plain.f a2_0 a2_1 a2_2 a2_3).bind fun t212 => (some t212))
theorem kauditref37_Interpret.mono : ∀ a0 a1 a2 a3 a4 a5 k, LeO (kauditref37_Interpret.f k a0 a1 a2 a3 a4 a5) (kauditref37_Interpret.f (k + 1) a0 a1 a2 a3 a4 a5) := by
  intro a0 a1 a2 a3 a4 a5 k
  unfold kauditref37_Interpret.f
  repeat' first
      | (with_reducible exact kauditref37_special.mono _ _ _ _ _)
      | (with_reducible exact LeO.refl _)
      | (with_reducible exact LeO.none _)
      | (with_reducible refine LeO.ite ?_ ?_)
      | (with_reducible refine LeO.bind ?_ (fun _ => ?_))
      | exact kauditref37_special.mono _ _ _ _ _
      | exact LeO.none _
      | refine LeO.ite ?_ ?_
      | refine LeO.bind ?_ (fun _ => ?_)
set_option maxHeartbeats 8000000 in
set_option maxRecDepth 100000 in
theorem kauditref37_Interpret.calls (k : Nat) (A0 : Option Addr) (c0 : Nat) (l0 : List (S47)) (a1 : Int) (a2_0 : ByteArray) (a2_1 : Int) (a2_2 : Int) (a2_3 : ByteArray) (r : ByteArray) (w : World) (hr0 : Kd.C k47 w A0 l0.length l0) (hc0 : l0.length ≤ c0) (h : kauditref37_Interpret.f k l0 a1 a2_0 a2_1 a2_2 a2_3 = some r) :
    Calls Tryd.prog 24 #[.slice A0 l0.length c0, .int .i64 a1, .agg #[.string a2_0, .int .i64 a2_1, .int .i64 a2_2, .string a2_3]] w fun e w' => e = .returned (.string r) ∧ Below w.heap.size w w' := by
  have hu34 := Tryd.underlying34
  have HR0 := Aside0.mk hr0
  have HC0 := Aside0.mk hc0
  clear hr0 hc0
  have HB := Aside0.mk (Below.refl w.heap.size w)
  have H : (if a2_1 = 1 then ((kauditref37_special.f k l0 a1 a2_0 a2_2).bind fun t210 => (if t210.toList = ([] : List UInt8) then ((kauditref37_Plain.f a2_0 a2_1 a2_2 a2_3).bind fun t211 => (some t211)) else (some t210))) else ((kauditref37_Plain.f a2_0 a2_1 a2_2 a2_3).bind fun t212 => (some t212))) = some r := h
  clear h
  by_cases c4 : a2_1 = 1
  · rw [if_pos c4] at H
    have c4b0 : (a2_1 == 1) = true := beq_iff_eq.mpr c4
    have c4b1 : (a2_1 != 1) = false := bne_eq_false_iff_eq.mpr c4
    clear c4
    replace H := Option.bind_eq_some_iff.mp H
    obtain ⟨t210, A50, H⟩ := H
    replace H : (if t210.toList = ([] : List UInt8) then ((kauditref37_Plain.f a2_0 a2_1 a2_2 a2_3).bind fun t211 => (some t211)) else (some t210)) = some r := H
    have A5 := Aside0.mk A50
    clear A50
    by_cases c6 : t210.toList = ([] : List UInt8)
    · rw [if_pos c6] at H
      have c6b0 : (t210.toList == ([] : List UInt8)) = true := beq_iff_eq.mpr c6
      have c6b1 : (t210.toList != ([] : List UInt8)) = false := bne_eq_false_iff_eq.mpr c6
      clear c6
      replace H := Option.bind_eq_some_iff.mp H
      obtain ⟨t211, A70, H⟩ := H
      replace H : (some t211) = some r := H
      have A7 := Aside0.mk A70
      clear A70
      obtain rfl := Option.some.inj H
      go_enter Tryd.func24, Tryd.ntmps24
      go_wp2_with (first | ((with_reducible refine gate_dst (N := 5) rfl ?_); refine box_event ?hg (N := 5) ?hd (cs := #[.string a2_0, .int .i64 a2_1, .int .i64 a2_2, .string a2_3]) (t := 34) ?hr ?_; (case hd => rfl); (case hg => rfl); (case hr => first | (go_simp; done) | (go_simp; rfl)); intro gb209 hg w8 hbox hb; have n0_ := Aside0.mk (below_step (by repeat (first | (with_reducible first | exact HB.out | apply below_alloc | apply pw_below_drewN | apply below_drew1) | exact HB.out)) hb); have n1_ := Aside0.mk (hbox); have n2_ := Aside0.mk ((by rw [hg]; exact (below_size (by repeat (first | (with_reducible first | exact HB.out | apply below_alloc | apply pw_below_drewN | apply below_drew1) | exact HB.out))) : w.heap.size ≤ gb209)); have n3_ := Aside0.mk ((by rw [hg]; exact (below_size (by repeat (first | (with_reducible first | exact HB.out | apply below_alloc | apply pw_below_drewN | apply below_drew1) | exact HB.out))) : w.heap.size ≤ gb209)); clear HB; have HB := n0_; have BK209 := n1_; have GW209 := n2_; have GE209 := n3_; clear n0_ n1_ n2_ n3_; clear hb hbox hg; have hcz9_0 : w8.cell? ⟨gb209, 0, none⟩ = some (.string a2_0) := (blk_cell BK209.out 0).trans rfl; have hcz9_1 : w8.cell? ⟨gb209, 1, none⟩ = some (.int .i64 a2_1) := (blk_cell BK209.out 1).trans rfl; have hcz9_2 : w8.cell? ⟨gb209, 2, none⟩ = some (.int .i64 a2_2) := (blk_cell BK209.out 2).trans rfl; have hcz9_3 : w8.cell? ⟨gb209, 3, none⟩ = some (.string a2_3) := (blk_cell BK209.out 3).trans rfl; have hfz9_0 := blk_frozen BK209.out 0; have hfz9_1 := blk_frozen BK209.out 1; have hfz9_2 := blk_frozen BK209.out 2; have hfz9_3 := blk_frozen BK209.out 3) | ((with_reducible refine gate_callee (f := 68) rfl ?_); refine goesL_ (some 17) rfl rfl Tryd.func68 (by kernel_rfl) rfl #[.slice A0 l0.length c0, .int .i64 a1, .string a2_0, .int .i64 a2_2] rfl (by (try simp only [List.map_toArray, List.map_cons, List.map_nil]); first | done | rfl | (simp only [List.length_drop, List.length_take]; rfl)) ?_; (with_reducible refine (kauditref37_special.calls k _ _ l0 a1 a2_0 a2_2 t210 _ ?side1 ?side2 A5.out).mono ?_); (case side1 => repeat (first | exact (Kd.C_below HR0.out HB.out) | (with_reducible refine Kd.C_alloc ?_ _) | (with_reducible refine Kd.C_drewN ?_ _) | (with_reducible refine Kd.C_drew ?_))); (case side2 => exact HC0.out); rintro e w10 ⟨rfl, hb⟩; refine ⟨_, rfl, ?_⟩; have n0_ := Aside0.mk (blk_below (g := gb209) (o := .cells #[.string a2_0, .int .i64 a2_1, .int .i64 a2_2, .string a2_3] 34 (0, 0)) (by (with_reducible repeat (first | refine blk_drewN ?_ _ | refine blk_drew ?_ | refine blk_alloc ?_ _)); exact BK209.out) hb); have n1_ := Aside0.mk (below_step (by repeat (first | (with_reducible first | exact HB.out | apply below_alloc | apply pw_below_drewN | apply below_drew1 | refine below_set ?_ GE209.out) | exact HB.out)) hb); clear BK209; clear HB; have BK209 := n0_; have HB := n1_; clear n0_ n1_; (try clear hb); (try clear hb2); (try clear hk); (try clear hi); have hcz11_0 : w10.cell? ⟨gb209, 0, none⟩ = some (.string a2_0) := (blk_cell BK209.out 0).trans rfl; have hcz11_1 : w10.cell? ⟨gb209, 1, none⟩ = some (.int .i64 a2_1) := (blk_cell BK209.out 1).trans rfl; have hcz11_2 : w10.cell? ⟨gb209, 2, none⟩ = some (.int .i64 a2_2) := (blk_cell BK209.out 2).trans rfl; have hcz11_3 : w10.cell? ⟨gb209, 3, none⟩ = some (.string a2_3) := (blk_cell BK209.out 3).trans rfl; have hfz11_0 := blk_frozen BK209.out 0; have hfz11_1 := blk_frozen BK209.out 1; have hfz11_2 := blk_frozen BK209.out 2; have hfz11_3 := blk_frozen BK209.out 3) | ((with_reducible refine gate_callee (f := 26) rfl ?_); refine goesL_ (some 22) rfl rfl Tryd.func26 (by kernel_rfl) rfl #[.agg #[.string a2_0, .int .i64 a2_1, .int .i64 a2_2, .string a2_3]] rfl (by (try simp only [List.map_toArray, List.map_cons, List.map_nil]); first | done | rfl | (simp only [List.length_drop, List.length_take]; rfl)) ?_; (with_reducible refine (kauditref37_Plain.calls a2_0 a2_1 a2_2 a2_3 t211 _ A7.out).mono ?_); rintro e w12 ⟨rfl, hb⟩; refine ⟨_, rfl, ?_⟩; have n0_ := Aside0.mk (blk_below (g := gb209) (o := .cells #[.string a2_0, .int .i64 a2_1, .int .i64 a2_2, .string a2_3] 34 (0, 0)) (by (with_reducible repeat (first | refine blk_drewN ?_ _ | refine blk_drew ?_ | refine blk_alloc ?_ _)); exact BK209.out) hb); have n1_ := Aside0.mk (below_step (by repeat (first | (with_reducible first | exact HB.out | apply below_alloc | apply pw_below_drewN | apply below_drew1 | refine below_set ?_ GE209.out) | exact HB.out)) hb); clear BK209; clear HB; have BK209 := n0_; have HB := n1_; clear n0_ n1_; (try clear hb); (try clear hb2); (try clear hk); (try clear hi)))
      go_ret
      exact ⟨by first | rfl | (simp [errW_none, errW_some] <;> rfl) | (simp [*, errW_none, errW_some] <;> rfl) | (simp only [isEmpty_ne_, isEmpty_eq_]; rfl) | (simp [*, isEmpty_ne_, isEmpty_eq_]; done), by repeat (first | (with_reducible first | exact HB.out | apply below_alloc | apply pw_below_drewN | apply below_drew1 | refine below_set ?_ GE209.out) | exact HB.out)⟩
    · rw [if_neg c6] at H
      have c6b0 : (t210.toList == ([] : List UInt8)) = false := beq_eq_false_iff_ne.mpr c6
      have c6b1 : (t210.toList != ([] : List UInt8)) = true := bne_iff_ne.mpr c6
      obtain rfl := Option.some.inj H
      go_enter Tryd.func24, Tryd.ntmps24
      go_wp2_with (first | ((with_reducible refine gate_dst (N := 5) rfl ?_); refine box_event ?hg (N := 5) ?hd (cs := #[.string a2_0, .int .i64 a2_1, .int .i64 a2_2, .string a2_3]) (t := 34) ?hr ?_; (case hd => rfl); (case hg => rfl); (case hr => first | (go_simp; done) | (go_simp; rfl)); intro gb209 hg w13 hbox hb; have n0_ := Aside0.mk (below_step (by repeat (first | (with_reducible first | exact HB.out | apply below_alloc | apply pw_below_drewN | apply below_drew1) | exact HB.out)) hb); have n1_ := Aside0.mk (hbox); have n2_ := Aside0.mk ((by rw [hg]; exact (below_size (by repeat (first | (with_reducible first | exact HB.out | apply below_alloc | apply pw_below_drewN | apply below_drew1) | exact HB.out))) : w.heap.size ≤ gb209)); have n3_ := Aside0.mk ((by rw [hg]; exact (below_size (by repeat (first | (with_reducible first | exact HB.out | apply below_alloc | apply pw_below_drewN | apply below_drew1) | exact HB.out))) : w.heap.size ≤ gb209)); clear HB; have HB := n0_; have BK209 := n1_; have GW209 := n2_; have GE209 := n3_; clear n0_ n1_ n2_ n3_; clear hb hbox hg; have hcz14_0 : w13.cell? ⟨gb209, 0, none⟩ = some (.string a2_0) := (blk_cell BK209.out 0).trans rfl; have hcz14_1 : w13.cell? ⟨gb209, 1, none⟩ = some (.int .i64 a2_1) := (blk_cell BK209.out 1).trans rfl; have hcz14_2 : w13.cell? ⟨gb209, 2, none⟩ = some (.int .i64 a2_2) := (blk_cell BK209.out 2).trans rfl; have hcz14_3 : w13.cell? ⟨gb209, 3, none⟩ = some (.string a2_3) := (blk_cell BK209.out 3).trans rfl; have hfz14_0 := blk_frozen BK209.out 0; have hfz14_1 := blk_frozen BK209.out 1; have hfz14_2 := blk_frozen BK209.out 2; have hfz14_3 := blk_frozen BK209.out 3) | ((with_reducible refine gate_callee (f := 68) rfl ?_); refine goesL_ (some 17) rfl rfl Tryd.func68 (by kernel_rfl) rfl #[.slice A0 l0.length c0, .int .i64 a1, .string a2_0, .int .i64 a2_2] rfl (by (try simp only [List.map_toArray, List.map_cons, List.map_nil]); first | done | rfl | (simp only [List.length_drop, List.length_take]; rfl)) ?_; (with_reducible refine (kauditref37_special.calls k _ _ l0 a1 a2_0 a2_2 t210 _ ?side1 ?side2 A5.out).mono ?_); (case side1 => repeat (first | exact (Kd.C_below HR0.out HB.out) | (with_reducible refine Kd.C_alloc ?_ _) | (with_reducible refine Kd.C_drewN ?_ _) | (with_reducible refine Kd.C_drew ?_))); (case side2 => exact HC0.out); rintro e w15 ⟨rfl, hb⟩; refine ⟨_, rfl, ?_⟩; have n0_ := Aside0.mk (blk_below (g := gb209) (o := .cells #[.string a2_0, .int .i64 a2_1, .int .i64 a2_2, .string a2_3] 34 (0, 0)) (by (with_reducible repeat (first | refine blk_drewN ?_ _ | refine blk_drew ?_ | refine blk_alloc ?_ _)); exact BK209.out) hb); have n1_ := Aside0.mk (below_step (by repeat (first | (with_reducible first | exact HB.out | apply below_alloc | apply pw_below_drewN | apply below_drew1 | refine below_set ?_ GE209.out) | exact HB.out)) hb); clear BK209; clear HB; have BK209 := n0_; have HB := n1_; clear n0_ n1_; (try clear hb); (try clear hb2); (try clear hk); (try clear hi)))
      go_ret
      exact ⟨by first | rfl | (simp [errW_none, errW_some] <;> rfl) | (simp [*, errW_none, errW_some] <;> rfl) | (simp only [isEmpty_ne_, isEmpty_eq_]; rfl) | (simp [*, isEmpty_ne_, isEmpty_eq_]; done), by repeat (first | (with_reducible first | exact HB.out | apply below_alloc | apply pw_below_drewN | apply below_drew1 | refine below_set ?_ GE209.out) | exact HB.out)⟩
  · rw [if_neg c4] at H
    have c4b0 : (a2_1 == 1) = false := beq_eq_false_iff_ne.mpr c4
    have c4b1 : (a2_1 != 1) = true := bne_iff_ne.mpr c4
    replace H := Option.bind_eq_some_iff.mp H
    obtain ⟨t212, A160, H⟩ := H
    replace H : (some t212) = some r := H
    have A16 := Aside0.mk A160
    clear A160
    obtain rfl := Option.some.inj H
    go_enter Tryd.func24, Tryd.ntmps24
    go_wp2_with (first | ((with_reducible refine gate_dst (N := 5) rfl ?_); refine box_event ?hg (N := 5) ?hd (cs := #[.string a2_0, .int .i64 a2_1, .int .i64 a2_2, .string a2_3]) (t := 34) ?hr ?_; (case hd => rfl); (case hg => rfl); (case hr => first | (go_simp; done) | (go_simp; rfl)); intro gb209 hg w17 hbox hb; have n0_ := Aside0.mk (below_step (by repeat (first | (with_reducible first | exact HB.out | apply below_alloc | apply pw_below_drewN | apply below_drew1) | exact HB.out)) hb); have n1_ := Aside0.mk (hbox); have n2_ := Aside0.mk ((by rw [hg]; exact (below_size (by repeat (first | (with_reducible first | exact HB.out | apply below_alloc | apply pw_below_drewN | apply below_drew1) | exact HB.out))) : w.heap.size ≤ gb209)); have n3_ := Aside0.mk ((by rw [hg]; exact (below_size (by repeat (first | (with_reducible first | exact HB.out | apply below_alloc | apply pw_below_drewN | apply below_drew1) | exact HB.out))) : w.heap.size ≤ gb209)); clear HB; have HB := n0_; have BK209 := n1_; have GW209 := n2_; have GE209 := n3_; clear n0_ n1_ n2_ n3_; clear hb hbox hg; have hcz18_0 : w17.cell? ⟨gb209, 0, none⟩ = some (.string a2_0) := (blk_cell BK209.out 0).trans rfl; have hcz18_1 : w17.cell? ⟨gb209, 1, none⟩ = some (.int .i64 a2_1) := (blk_cell BK209.out 1).trans rfl; have hcz18_2 : w17.cell? ⟨gb209, 2, none⟩ = some (.int .i64 a2_2) := (blk_cell BK209.out 2).trans rfl; have hcz18_3 : w17.cell? ⟨gb209, 3, none⟩ = some (.string a2_3) := (blk_cell BK209.out 3).trans rfl; have hfz18_0 := blk_frozen BK209.out 0; have hfz18_1 := blk_frozen BK209.out 1; have hfz18_2 := blk_frozen BK209.out 2; have hfz18_3 := blk_frozen BK209.out 3) | ((with_reducible refine gate_callee (f := 26) rfl ?_); refine goesL_ (some 22) rfl rfl Tryd.func26 (by kernel_rfl) rfl #[.agg #[.string a2_0, .int .i64 a2_1, .int .i64 a2_2, .string a2_3]] rfl (by (try simp only [List.map_toArray, List.map_cons, List.map_nil]); first | done | rfl | (simp only [List.length_drop, List.length_take]; rfl)) ?_; (with_reducible refine (kauditref37_Plain.calls a2_0 a2_1 a2_2 a2_3 t212 _ A16.out).mono ?_); rintro e w19 ⟨rfl, hb⟩; refine ⟨_, rfl, ?_⟩; have n0_ := Aside0.mk (blk_below (g := gb209) (o := .cells #[.string a2_0, .int .i64 a2_1, .int .i64 a2_2, .string a2_3] 34 (0, 0)) (by (with_reducible repeat (first | refine blk_drewN ?_ _ | refine blk_drew ?_ | refine blk_alloc ?_ _)); exact BK209.out) hb); have n1_ := Aside0.mk (below_step (by repeat (first | (with_reducible first | exact HB.out | apply below_alloc | apply pw_below_drewN | apply below_drew1 | refine below_set ?_ GE209.out) | exact HB.out)) hb); clear BK209; clear HB; have BK209 := n0_; have HB := n1_; clear n0_ n1_; (try clear hb); (try clear hb2); (try clear hk); (try clear hi)))
    go_ret
    exact ⟨by first | rfl | (simp [errW_none, errW_some] <;> rfl) | (simp [*, errW_none, errW_some] <;> rfl) | (simp only [isEmpty_ne_, isEmpty_eq_]; rfl) | (simp [*, isEmpty_ne_, isEmpty_eq_]; done), by repeat (first | (with_reducible first | exact HB.out | apply below_alloc | apply pw_below_drewN | apply below_drew1 | refine below_set ?_ GE209.out) | exact HB.out)⟩

end Go.Proofs.YtjnlmmjadlidlaaDoor.PNames
