-- Written by a program of mine (wip/kprint.sh): a plain Lean function for each Go function, and the proof that the Go code comes to its answers. Not trusted: Lean checks it.
import Derived.Test.YtjnlmmjadlidlaaDoorPRecx0
import Derived.Test.YtjnlmmjadlidlaaDoorPRecx7
import Derived.Test.YtjnlmmjadlidlaaDoorPRecx11
import Derived.Test.YtjnlmmjadlidlaaDoorPRecx12
import Derived.Test.YtjnlmmjadlidlaaDoorRE0
namespace Go.Proofs.YtjnlmmjadlidlaaDoor.PRec
open Go.RowKit Go.Proofs.YtjnlmmjadlidlaaDoorW.PrintWords Go.Proofs.YtjnlmmjadlidlaaDoorW.PrintLast Go.Proofs.YtjnlmmjadlidlaaDoorW.PrintMore
attribute [local go_sem] max2_int min2_int max_two min_two max_three min_three max_four min_four   -- for this text's walks alone
set_option linter.unusedVariables false
set_option linter.unusedSimpArgs false

/-! ### kauditref03_Format: function 71 -/
def kauditref03_Format.l0 : Nat → ByteArray → Int → Int → Int → Int → List (S34) → Option (ByteArray × Int)
  | 0, _, _, _, _, _, _ => none
  | k + 1, x5, x6, x228000, x228001, x228002, x228003 => if x6 < (x228003.length : Int) then (if 0 ≤ x6 then ((kauditref02_Format.f k ((rd_T34 x228003 x6).f0) ((rd_T34 x228003 x6).f1) ((rd_T34 x228003 x6).f2) ((rd_T34 x228003 x6).f3)).bind fun bt234 => (if 1 + bt234.1.size ≤ 9223372036854775807 then (if x5.size + 1 + bt234.1.size ≤ 9223372036854775807 then (kauditref03_Format.l0 k (x5 ++ ((⟨#[32]⟩ : ByteArray) ++ bt234.1)) (wrap64 (x6 + 1)) x228000 x228001 x228002 x228003) else (none)) else (none))) else (none)) else (some (x5, 0))
def kauditref03_Format.f (k : Nat) (a0_0 : Int) (a0_1 : Int) (a0_2 : Int) (l0_3 : List (S34)) : Option (ByteArray × Int) := (kauditref03_Check.f k a0_0 a0_1 a0_2 l0_3).bind fun t228 => (if t228 = 0 then ((kauditref03_Name.f k a0_0).bind fun t229 => (if 5 + t229.size ≤ 9223372036854775807 then (if 5 + t229.size + 11 ≤ 9223372036854775807 then ((kauditref01_Decimal.f (wrap64 (Int.tdiv a0_1 1000))).bind fun t230 => (if 5 + t229.size + 11 + t230.size ≤ 9223372036854775807 then (if 5 + t229.size + 11 + t230.size + 1 ≤ 9223372036854775807 then ((kauditref03_three.f (Int.tmod a0_1 1000)).bind fun t231 => (if 5 + t229.size + 11 + t230.size + 1 + t231.size ≤ 9223372036854775807 then (if 5 + t229.size + 11 + t230.size + 1 + t231.size + 1 ≤ 9223372036854775807 then ((kauditref01_Decimal.f a0_2).bind fun t232 => (if 5 + t229.size + 11 + t230.size + 1 + t231.size + 1 + t232.size ≤ 9223372036854775807 then (if 5 + t229.size + 11 + t230.size + 1 + t231.size + 1 + t232.size + 2 ≤ 9223372036854775807 then (kauditref03_Format.l0 k (((((((((⟨#[116, 121, 112, 101, 61]⟩ : ByteArray) ++ t229) ++ (⟨#[32, 109, 115, 103, 61, 97, 117, 100, 105, 116, 40]⟩ : ByteArray)) ++ t230) ++ (⟨#[46]⟩ : ByteArray)) ++ t231) ++ (⟨#[58]⟩ : ByteArray)) ++ t232) ++ (⟨#[41, 58]⟩ : ByteArray)) 0 a0_0 a0_1 a0_2 l0_3) else (none)) else (none))) else (none)) else (none))) else (none)) else (none))) else (none)) else (none))) else (some ((⟨#[]⟩ : ByteArray), t228)))
theorem kauditref03_Format.mono_l : ∀ k, (∀ y0 y1 y2 y3 y4 y5, LeO (kauditref03_Format.l0 k y0 y1 y2 y3 y4 y5) (kauditref03_Format.l0 (k + 1) y0 y1 y2 y3 y4 y5))
  | 0 => fun _ _ _ _ _ _ r h => by simp [kauditref03_Format.l0] at h
  | k + 1 => by
    have ih0 := kauditref03_Format.mono_l k
    · intro y0 y1 y2 y3 y4 y5
      unfold kauditref03_Format.l0
      repeat' first
      | (with_reducible exact ih0 _ _ _ _ _ _)
      | (with_reducible exact kauditref02_Format.mono _ _ _ _ _)
      | (with_reducible exact kauditref03_Check.mono _ _ _ _ _)
      | (with_reducible exact kauditref03_Name.mono _ _)
      | (with_reducible exact LeO.refl _)
      | (with_reducible exact LeO.none _)
      | (with_reducible refine LeO.ite ?_ ?_)
      | (with_reducible refine LeO.bind ?_ (fun _ => ?_))
      | exact ih0 _ _ _ _ _ _
      | exact kauditref02_Format.mono _ _ _ _ _
      | exact kauditref03_Check.mono _ _ _ _ _
      | exact kauditref03_Name.mono _ _
      | exact LeO.none _
      | refine LeO.ite ?_ ?_
      | refine LeO.bind ?_ (fun _ => ?_)
theorem kauditref03_Format.mono : ∀ a0 a1 a2 a3 k, LeO (kauditref03_Format.f k a0 a1 a2 a3) (kauditref03_Format.f (k + 1) a0 a1 a2 a3) := by
  intro a0 a1 a2 a3 k
  have ih0 := kauditref03_Format.mono_l k
  unfold kauditref03_Format.f
  repeat' first
      | (with_reducible exact ih0 _ _ _ _ _ _)
      | (with_reducible exact kauditref02_Format.mono _ _ _ _ _)
      | (with_reducible exact kauditref03_Check.mono _ _ _ _ _)
      | (with_reducible exact kauditref03_Name.mono _ _)
      | (with_reducible exact LeO.refl _)
      | (with_reducible exact LeO.none _)
      | (with_reducible refine LeO.ite ?_ ?_)
      | (with_reducible refine LeO.bind ?_ (fun _ => ?_))
      | exact ih0 _ _ _ _ _ _
      | exact kauditref02_Format.mono _ _ _ _ _
      | exact kauditref03_Check.mono _ _ _ _ _
      | exact kauditref03_Name.mono _ _
      | exact LeO.none _
      | refine LeO.ite ?_ ?_
      | refine LeO.bind ?_ (fun _ => ?_)
def kauditref03_Format.T4 : Bool × List (List Nat × List Nat) := (true, [([], []), ([0], [0]), ([1], [1]), ([2], [2]), ([3], [3]), ([], []), ([5], [5]), ([6], [6]), ([7, 2], [7]), ([4, 8], [4, 8]), ([9], [9]), ([], []), ([11], [11]), ([12], [12]), ([13, 8], [13]), ([10, 14], [10, 14]), ([15], [15]), ([], []), ([17], [17]), ([18, 14], [18]), ([16, 19], [16, 19]), ([20], [20]), ([21, 19, 0, 1, 2, 3, 4, 5, 6, 7, 8, 9, 10, 11, 12, 13, 14, 15, 16, 17, 18, 19, 20, 21], [21])])
def kauditref03_Format.B4 : List Nat := [0, 1, 3, 7, 15, 0, 32, 96, 231, 511, 1023, 0, 2048, 6144, 14823, 32767, 65535, 0, 131072, 424423, 1048575, 2097151, 4194303]
theorem kauditref03_Format.tab4 : rtab .any (opsOf Tryd.f71 4) = kauditref03_Format.T4 := by kernel_rfl
theorem kauditref03_Format.bits4 : waitsOk kauditref03_Format.T4.2 kauditref03_Format.B4 = true := by kernel_rfl
set_option maxHeartbeats 8000000 in
set_option maxRecDepth 100000 in
theorem kauditref03_Format.calls (k : Nat) (a0_0 : Int) (a0_1 : Int) (a0_2 : Int) (A0_3 : Option Addr) (c0_3 : Nat) (l0_3 : List (S34)) (r1 : ByteArray) (r2 : Int) (w : World) (hr0_3 : Kd.C k34 w A0_3 l0_3.length l0_3) (hc0_3 : l0_3.length ≤ c0_3) (h : kauditref03_Format.f k a0_0 a0_1 a0_2 l0_3 = some (r1, r2)) :
    Calls Tryd.prog 71 #[.agg #[.int .i64 a0_0, .int .i64 a0_1, .int .i64 a0_2, .slice A0_3 l0_3.length c0_3]] w fun e w' => e = .returned (.tuple #[.string r1, .int .i64 r2]) ∧ Below w.heap.size w w' := by
  have hu50 := Tryd.underlying50
  have hu34 := Tryd.underlying34
  have HR0_3 := Aside0.mk hr0_3
  have HC0_3 := Aside0.mk hc0_3
  clear hr0_3 hc0_3
  have HB := Aside0.mk (Below.refl w.heap.size w)
  have H : ((kauditref03_Check.f k a0_0 a0_1 a0_2 l0_3).bind fun t228 => (if t228 = 0 then ((kauditref03_Name.f k a0_0).bind fun t229 => (if 5 + t229.size ≤ 9223372036854775807 then (if 5 + t229.size + 11 ≤ 9223372036854775807 then ((kauditref01_Decimal.f (wrap64 (Int.tdiv a0_1 1000))).bind fun t230 => (if 5 + t229.size + 11 + t230.size ≤ 9223372036854775807 then (if 5 + t229.size + 11 + t230.size + 1 ≤ 9223372036854775807 then ((kauditref03_three.f (Int.tmod a0_1 1000)).bind fun t231 => (if 5 + t229.size + 11 + t230.size + 1 + t231.size ≤ 9223372036854775807 then (if 5 + t229.size + 11 + t230.size + 1 + t231.size + 1 ≤ 9223372036854775807 then ((kauditref01_Decimal.f a0_2).bind fun t232 => (if 5 + t229.size + 11 + t230.size + 1 + t231.size + 1 + t232.size ≤ 9223372036854775807 then (if 5 + t229.size + 11 + t230.size + 1 + t231.size + 1 + t232.size + 2 ≤ 9223372036854775807 then (kauditref03_Format.l0 k (((((((((⟨#[116, 121, 112, 101, 61]⟩ : ByteArray) ++ t229) ++ (⟨#[32, 109, 115, 103, 61, 97, 117, 100, 105, 116, 40]⟩ : ByteArray)) ++ t230) ++ (⟨#[46]⟩ : ByteArray)) ++ t231) ++ (⟨#[58]⟩ : ByteArray)) ++ t232) ++ (⟨#[41, 58]⟩ : ByteArray)) 0 a0_0 a0_1 a0_2 l0_3) else (none)) else (none))) else (none)) else (none))) else (none)) else (none))) else (none)) else (none))) else (some ((⟨#[]⟩ : ByteArray), t228)))) = some (r1, r2) := h
  clear h
  replace H := Option.bind_eq_some_iff.mp H
  obtain ⟨t228, A20, H⟩ := H
  replace H : (if t228 = 0 then ((kauditref03_Name.f k a0_0).bind fun t229 => (if 5 + t229.size ≤ 9223372036854775807 then (if 5 + t229.size + 11 ≤ 9223372036854775807 then ((kauditref01_Decimal.f (wrap64 (Int.tdiv a0_1 1000))).bind fun t230 => (if 5 + t229.size + 11 + t230.size ≤ 9223372036854775807 then (if 5 + t229.size + 11 + t230.size + 1 ≤ 9223372036854775807 then ((kauditref03_three.f (Int.tmod a0_1 1000)).bind fun t231 => (if 5 + t229.size + 11 + t230.size + 1 + t231.size ≤ 9223372036854775807 then (if 5 + t229.size + 11 + t230.size + 1 + t231.size + 1 ≤ 9223372036854775807 then ((kauditref01_Decimal.f a0_2).bind fun t232 => (if 5 + t229.size + 11 + t230.size + 1 + t231.size + 1 + t232.size ≤ 9223372036854775807 then (if 5 + t229.size + 11 + t230.size + 1 + t231.size + 1 + t232.size + 2 ≤ 9223372036854775807 then (kauditref03_Format.l0 k (((((((((⟨#[116, 121, 112, 101, 61]⟩ : ByteArray) ++ t229) ++ (⟨#[32, 109, 115, 103, 61, 97, 117, 100, 105, 116, 40]⟩ : ByteArray)) ++ t230) ++ (⟨#[46]⟩ : ByteArray)) ++ t231) ++ (⟨#[58]⟩ : ByteArray)) ++ t232) ++ (⟨#[41, 58]⟩ : ByteArray)) 0 a0_0 a0_1 a0_2 l0_3) else (none)) else (none))) else (none)) else (none))) else (none)) else (none))) else (none)) else (none))) else (some ((⟨#[]⟩ : ByteArray), t228))) = some (r1, r2) := H
  have A2 := Aside0.mk A20
  clear A20
  by_cases c3 : t228 = 0
  · rw [if_pos c3] at H
    have c3b0 : (t228 == 0) = true := beq_iff_eq.mpr c3
    have c3b1 : (t228 != 0) = false := bne_eq_false_iff_eq.mpr c3
    clear c3
    replace H := Option.bind_eq_some_iff.mp H
    obtain ⟨t229, A40, H⟩ := H
    replace H : (if 5 + t229.size ≤ 9223372036854775807 then (if 5 + t229.size + 11 ≤ 9223372036854775807 then ((kauditref01_Decimal.f (wrap64 (Int.tdiv a0_1 1000))).bind fun t230 => (if 5 + t229.size + 11 + t230.size ≤ 9223372036854775807 then (if 5 + t229.size + 11 + t230.size + 1 ≤ 9223372036854775807 then ((kauditref03_three.f (Int.tmod a0_1 1000)).bind fun t231 => (if 5 + t229.size + 11 + t230.size + 1 + t231.size ≤ 9223372036854775807 then (if 5 + t229.size + 11 + t230.size + 1 + t231.size + 1 ≤ 9223372036854775807 then ((kauditref01_Decimal.f a0_2).bind fun t232 => (if 5 + t229.size + 11 + t230.size + 1 + t231.size + 1 + t232.size ≤ 9223372036854775807 then (if 5 + t229.size + 11 + t230.size + 1 + t231.size + 1 + t232.size + 2 ≤ 9223372036854775807 then (kauditref03_Format.l0 k (((((((((⟨#[116, 121, 112, 101, 61]⟩ : ByteArray) ++ t229) ++ (⟨#[32, 109, 115, 103, 61, 97, 117, 100, 105, 116, 40]⟩ : ByteArray)) ++ t230) ++ (⟨#[46]⟩ : ByteArray)) ++ t231) ++ (⟨#[58]⟩ : ByteArray)) ++ t232) ++ (⟨#[41, 58]⟩ : ByteArray)) 0 a0_0 a0_1 a0_2 l0_3) else (none)) else (none))) else (none)) else (none))) else (none)) else (none))) else (none)) else (none)) = some (r1, r2) := H
    have A4 := Aside0.mk A40
    clear A40
    by_cases c5 : 5 + t229.size ≤ 9223372036854775807
    · rw [if_pos c5] at H
      have c5b0 := eq_true c5
      have c5b1 : decide (5 + t229.size ≤ 9223372036854775807) = true := decide_eq_true c5
      try have c5b2 : (9223372036854775807 < 5 + t229.size) = False := eq_false (Nat.not_lt.2 c5)
      by_cases c6 : 5 + t229.size + 11 ≤ 9223372036854775807
      · rw [if_pos c6] at H
        have c6b0 := eq_true c6
        have c6b1 : decide (5 + t229.size + 11 ≤ 9223372036854775807) = true := decide_eq_true c6
        try have c6b2 : (9223372036854775807 < 5 + t229.size + 11) = False := eq_false (Nat.not_lt.2 c6)
        replace H := Option.bind_eq_some_iff.mp H
        obtain ⟨t230, A70, H⟩ := H
        replace H : (if 5 + t229.size + 11 + t230.size ≤ 9223372036854775807 then (if 5 + t229.size + 11 + t230.size + 1 ≤ 9223372036854775807 then ((kauditref03_three.f (Int.tmod a0_1 1000)).bind fun t231 => (if 5 + t229.size + 11 + t230.size + 1 + t231.size ≤ 9223372036854775807 then (if 5 + t229.size + 11 + t230.size + 1 + t231.size + 1 ≤ 9223372036854775807 then ((kauditref01_Decimal.f a0_2).bind fun t232 => (if 5 + t229.size + 11 + t230.size + 1 + t231.size + 1 + t232.size ≤ 9223372036854775807 then (if 5 + t229.size + 11 + t230.size + 1 + t231.size + 1 + t232.size + 2 ≤ 9223372036854775807 then (kauditref03_Format.l0 k (((((((((⟨#[116, 121, 112, 101, 61]⟩ : ByteArray) ++ t229) ++ (⟨#[32, 109, 115, 103, 61, 97, 117, 100, 105, 116, 40]⟩ : ByteArray)) ++ t230) ++ (⟨#[46]⟩ : ByteArray)) ++ t231) ++ (⟨#[58]⟩ : ByteArray)) ++ t232) ++ (⟨#[41, 58]⟩ : ByteArray)) 0 a0_0 a0_1 a0_2 l0_3) else (none)) else (none))) else (none)) else (none))) else (none)) else (none)) = some (r1, r2) := H
        have A7 := Aside0.mk A70
        clear A70
        by_cases c8 : 5 + t229.size + 11 + t230.size ≤ 9223372036854775807
        · rw [if_pos c8] at H
          have c8b0 := eq_true c8
          have c8b1 : decide (5 + t229.size + 11 + t230.size ≤ 9223372036854775807) = true := decide_eq_true c8
          try have c8b2 : (9223372036854775807 < 5 + t229.size + 11 + t230.size) = False := eq_false (Nat.not_lt.2 c8)
          by_cases c9 : 5 + t229.size + 11 + t230.size + 1 ≤ 9223372036854775807
          · rw [if_pos c9] at H
            have c9b0 := eq_true c9
            have c9b1 : decide (5 + t229.size + 11 + t230.size + 1 ≤ 9223372036854775807) = true := decide_eq_true c9
            try have c9b2 : (9223372036854775807 < 5 + t229.size + 11 + t230.size + 1) = False := eq_false (Nat.not_lt.2 c9)
            replace H := Option.bind_eq_some_iff.mp H
            obtain ⟨t231, A100, H⟩ := H
            replace H : (if 5 + t229.size + 11 + t230.size + 1 + t231.size ≤ 9223372036854775807 then (if 5 + t229.size + 11 + t230.size + 1 + t231.size + 1 ≤ 9223372036854775807 then ((kauditref01_Decimal.f a0_2).bind fun t232 => (if 5 + t229.size + 11 + t230.size + 1 + t231.size + 1 + t232.size ≤ 9223372036854775807 then (if 5 + t229.size + 11 + t230.size + 1 + t231.size + 1 + t232.size + 2 ≤ 9223372036854775807 then (kauditref03_Format.l0 k (((((((((⟨#[116, 121, 112, 101, 61]⟩ : ByteArray) ++ t229) ++ (⟨#[32, 109, 115, 103, 61, 97, 117, 100, 105, 116, 40]⟩ : ByteArray)) ++ t230) ++ (⟨#[46]⟩ : ByteArray)) ++ t231) ++ (⟨#[58]⟩ : ByteArray)) ++ t232) ++ (⟨#[41, 58]⟩ : ByteArray)) 0 a0_0 a0_1 a0_2 l0_3) else (none)) else (none))) else (none)) else (none)) = some (r1, r2) := H
            have A10 := Aside0.mk A100
            clear A100
            by_cases c11 : 5 + t229.size + 11 + t230.size + 1 + t231.size ≤ 9223372036854775807
            · rw [if_pos c11] at H
              have c11b0 := eq_true c11
              have c11b1 : decide (5 + t229.size + 11 + t230.size + 1 + t231.size ≤ 9223372036854775807) = true := decide_eq_true c11
              try have c11b2 : (9223372036854775807 < 5 + t229.size + 11 + t230.size + 1 + t231.size) = False := eq_false (Nat.not_lt.2 c11)
              by_cases c12 : 5 + t229.size + 11 + t230.size + 1 + t231.size + 1 ≤ 9223372036854775807
              · rw [if_pos c12] at H
                have c12b0 := eq_true c12
                have c12b1 : decide (5 + t229.size + 11 + t230.size + 1 + t231.size + 1 ≤ 9223372036854775807) = true := decide_eq_true c12
                try have c12b2 : (9223372036854775807 < 5 + t229.size + 11 + t230.size + 1 + t231.size + 1) = False := eq_false (Nat.not_lt.2 c12)
                replace H := Option.bind_eq_some_iff.mp H
                obtain ⟨t232, A130, H⟩ := H
                replace H : (if 5 + t229.size + 11 + t230.size + 1 + t231.size + 1 + t232.size ≤ 9223372036854775807 then (if 5 + t229.size + 11 + t230.size + 1 + t231.size + 1 + t232.size + 2 ≤ 9223372036854775807 then (kauditref03_Format.l0 k (((((((((⟨#[116, 121, 112, 101, 61]⟩ : ByteArray) ++ t229) ++ (⟨#[32, 109, 115, 103, 61, 97, 117, 100, 105, 116, 40]⟩ : ByteArray)) ++ t230) ++ (⟨#[46]⟩ : ByteArray)) ++ t231) ++ (⟨#[58]⟩ : ByteArray)) ++ t232) ++ (⟨#[41, 58]⟩ : ByteArray)) 0 a0_0 a0_1 a0_2 l0_3) else (none)) else (none)) = some (r1, r2) := H
                have A13 := Aside0.mk A130
                clear A130
                by_cases c14 : 5 + t229.size + 11 + t230.size + 1 + t231.size + 1 + t232.size ≤ 9223372036854775807
                · rw [if_pos c14] at H
                  have c14b0 := eq_true c14
                  have c14b1 : decide (5 + t229.size + 11 + t230.size + 1 + t231.size + 1 + t232.size ≤ 9223372036854775807) = true := decide_eq_true c14
                  try have c14b2 : (9223372036854775807 < 5 + t229.size + 11 + t230.size + 1 + t231.size + 1 + t232.size) = False := eq_false (Nat.not_lt.2 c14)
                  by_cases c15 : 5 + t229.size + 11 + t230.size + 1 + t231.size + 1 + t232.size + 2 ≤ 9223372036854775807
                  · rw [if_pos c15] at H
                    have c15b0 := eq_true c15
                    have c15b1 : decide (5 + t229.size + 11 + t230.size + 1 + t231.size + 1 + t232.size + 2 ≤ 9223372036854775807) = true := decide_eq_true c15
                    try have c15b2 : (9223372036854775807 < 5 + t229.size + 11 + t230.size + 1 + t231.size + 1 + t232.size + 2) = False := eq_false (Nat.not_lt.2 c15)
                    have H' := Aside0.mk H
                    clear H
                    go_enter Tryd.func71, Tryd.ntmps71
                    try go_wp2_with (first | ((with_reducible refine gate_dst (N := 1) rfl ?_); refine box_event ?hg (N := 1) ?hd (cs := #[.int .i64 a0_0, .int .i64 a0_1, .int .i64 a0_2, .slice A0_3 l0_3.length c0_3]) (t := 50) ?hr ?_; (case hd => rfl); (case hg => rfl); (case hr => first | (go_simp; done) | (go_simp; rfl)); intro gb227 hg w16 hbox hb; have n0_ := Aside0.mk (below_step (by repeat (first | (with_reducible first | exact HB.out | apply below_alloc | apply pw_below_drewN | apply below_drew1) | exact HB.out)) hb); have n1_ := Aside0.mk (hbox); have n2_ := Aside0.mk ((by rw [hg]; exact (below_size (by repeat (first | (with_reducible first | exact HB.out | apply below_alloc | apply pw_below_drewN | apply below_drew1) | exact HB.out))) : w.heap.size ≤ gb227)); have n3_ := Aside0.mk ((by rw [hg]; exact (below_size (by repeat (first | (with_reducible first | exact HB.out | apply below_alloc | apply pw_below_drewN | apply below_drew1) | exact HB.out))) : w.heap.size ≤ gb227)); clear HB; have HB := n0_; have BK227 := n1_; have GW227 := n2_; have GE227 := n3_; clear n0_ n1_ n2_ n3_; clear hb hbox hg; have hcz17_0 : w16.cell? ⟨gb227, 0, none⟩ = some (.int .i64 a0_0) := (blk_cell BK227.out 0).trans rfl; have hcz17_1 : w16.cell? ⟨gb227, 1, none⟩ = some (.int .i64 a0_1) := (blk_cell BK227.out 1).trans rfl; have hcz17_2 : w16.cell? ⟨gb227, 2, none⟩ = some (.int .i64 a0_2) := (blk_cell BK227.out 2).trans rfl; have hcz17_3 : w16.cell? ⟨gb227, 3, none⟩ = some (.slice A0_3 l0_3.length c0_3) := (blk_cell BK227.out 3).trans rfl; have hfz17_0 := blk_frozen BK227.out 0; have hfz17_1 := blk_frozen BK227.out 1; have hfz17_2 := blk_frozen BK227.out 2; have hfz17_3 := blk_frozen BK227.out 3) | ((with_reducible refine gate_callee (f := 73) rfl ?_); refine goesL_ (some 10) rfl rfl Tryd.func73 (by kernel_rfl) rfl #[.agg #[.int .i64 a0_0, .int .i64 a0_1, .int .i64 a0_2, .slice A0_3 l0_3.length c0_3]] rfl (by (try simp only [List.map_toArray, List.map_cons, List.map_nil]); first | done | rfl | (simp only [List.length_drop, List.length_take]; rfl)) ?_; (with_reducible refine (kauditref03_Check.calls k a0_0 a0_1 a0_2 _ _ l0_3 t228 _ ?side1 ?side2 A2.out).mono ?_); (case side1 => repeat (first | exact (Kd.C_below HR0_3.out HB.out) | (with_reducible refine Kd.C_alloc ?_ _) | (with_reducible refine Kd.C_drewN ?_ _) | (with_reducible refine Kd.C_drew ?_))); (case side2 => exact HC0_3.out); rintro e w18 ⟨rfl, hb⟩; refine ⟨_, rfl, ?_⟩; have n0_ := Aside0.mk (blk_below (g := gb227) (o := .cells #[.int .i64 a0_0, .int .i64 a0_1, .int .i64 a0_2, .slice A0_3 l0_3.length c0_3] 50 (0, 0)) (by (with_reducible repeat (first | refine blk_drewN ?_ _ | refine blk_drew ?_ | refine blk_alloc ?_ _)); exact BK227.out) hb); have n1_ := Aside0.mk (below_step (by repeat (first | (with_reducible first | exact HB.out | apply below_alloc | apply pw_below_drewN | apply below_drew1 | refine below_set ?_ GE227.out) | exact HB.out)) hb); clear BK227; clear HB; have BK227 := n0_; have HB := n1_; clear n0_ n1_; (try clear hb); (try clear hb2); (try clear hk); (try clear hi)))
                    have n0_ := Aside0.mk (blk_drew BK227.out)
                    have n1_ := Aside0.mk (below_drew1 HB.out)
                    clear BK227
                    clear HB
                    have BK227 := n0_
                    have HB := n1_
                    clear n0_ n1_
                    refine start_ (n := 23) (S := fun w' => w'.cell? ⟨gb227, 0, none⟩ = some (.int .i64 a0_0) ∧ w'.cell? ⟨gb227, 1, none⟩ = some (.int .i64 a0_1) ∧ w'.cell? ⟨gb227, 2, none⟩ = some (.int .i64 a0_2) ∧ w'.cell? ⟨gb227, 3, none⟩ = some (.slice A0_3 l0_3.length c0_3)) (ds := []) #[false, false, false, false, false, false, false, false, false, false, false, false, false, false, false, false, false, false, false, false, false, false, false] (by kernel_rfl) rfl rfl ⟨(blk_cell BK227.out 0).trans rfl, (blk_cell BK227.out 1).trans rfl, (blk_cell BK227.out 2).trans rfl, (blk_cell BK227.out 3).trans rfl⟩ (fun hHeld => ?_); refine with_tabW kauditref03_Format.tab4 kauditref03_Format.bits4 (fun HT_ HW_ => ?_)
                    generalize w18.drew = w19 at BK227 HB hHeld ⊢
                    refine pure_ (i := 0) (N := some 14) (v := ?_) (a' := ?_) #[true, false, false, false, false, false, false, false, false, false, false, false, false, false, false, false, false, false, false, false, false, false, false] rfl rfl (any_of HT_.out (by kernel_rfl)) (fun _ _ _ h => h) (Or.inl ⟨by rfl, ?_⟩) ?_ ?_
                    rotate_left
                    · intro w'
                      go_simp
                      with_reducible rfl
                    rotate_left
                    · simp only [Act.put, List.setIfInBounds_toArray, List.set_cons_zero, List.set_cons_succ, i64_w, i32_w]
                      rfl
                    refine pure_ (i := 5) (N := some 19) (v := ?_) (a' := ?_) #[true, false, false, false, false, true, false, false, false, false, false, false, false, false, false, false, false, false, false, false, false, false, false] rfl rfl (any_of HT_.out (by kernel_rfl)) (fun _ _ _ h => h) (Or.inl ⟨by rfl, ?_⟩) ?_ ?_
                    rotate_left
                    · intro w'
                      go_simp
                      with_reducible rfl
                    rotate_left
                    · simp only [Act.put, List.setIfInBounds_toArray, List.set_cons_zero, List.set_cons_succ, i64_w, i32_w]
                      rfl
                    refine pure_ (i := 11) (N := some 25) (v := ?_) (a' := ?_) #[true, false, false, false, false, true, false, false, false, false, false, true, false, false, false, false, false, false, false, false, false, false, false] rfl rfl (any_of HT_.out (by kernel_rfl)) (fun _ _ _ h => h) (Or.inl ⟨by rfl, ?_⟩) ?_ ?_
                    rotate_left
                    · intro w'
                      go_simp
                      with_reducible rfl
                    rotate_left
                    · simp only [Act.put, List.setIfInBounds_toArray, List.set_cons_zero, List.set_cons_succ, i64_w, i32_w]
                      rfl
                    refine pure_ (i := 17) (N := some 31) (v := ?_) (a' := ?_) #[true, false, false, false, false, true, false, false, false, false, false, true, false, false, false, false, false, true, false, false, false, false, false] rfl rfl (any_of HT_.out (by kernel_rfl)) (fun _ _ _ h => h) (Or.inl ⟨by rfl, ?_⟩) ?_ ?_
                    rotate_left
                    · intro w'
                      go_simp
                      with_reducible rfl
                    rotate_left
                    · simp only [Act.put, List.setIfInBounds_toArray, List.set_cons_zero, List.set_cons_succ, i64_w, i32_w]
                      rfl
                    refine take_ (i := 1) (N := some 15) (v := ?_) (a' := ?_) #[true, true, false, false, false, true, false, false, false, false, false, true, false, false, false, false, false, true, false, false, false, false, false] rfl rfl (take_ofW HT_.out HW_.out (by kernel_rfl)) (fun _ _ _ h => h) (Or.inl ⟨by rfl, ?_⟩) hHeld ?_ ?_
                    rotate_left
                    · rintro w' ⟨s0, s1, s2, s3⟩
                      go_simp
                      with_reducible rfl
                    rotate_left
                    · simp only [Act.put, List.setIfInBounds_toArray, List.set_cons_zero, List.set_cons_succ, i64_w, i32_w]
                      rfl
                    refine take_ (i := 6) (N := some 20) (v := ?_) (a' := ?_) #[true, true, false, false, false, true, true, false, false, false, false, true, false, false, false, false, false, true, false, false, false, false, false] rfl rfl (take_ofW HT_.out HW_.out (by kernel_rfl)) (fun _ _ _ h => h) (Or.inl ⟨by rfl, ?_⟩) hHeld ?_ ?_
                    rotate_left
                    · rintro w' ⟨s0, s1, s2, s3⟩
                      go_simp
                      with_reducible rfl
                    rotate_left
                    · simp only [Act.put, List.setIfInBounds_toArray, List.set_cons_zero, List.set_cons_succ, i64_w, i32_w]
                      rfl
                    refine pure_ (i := 7) (N := some 21) (v := ?_) (a' := ?_) #[true, true, false, false, false, true, true, true, false, false, false, true, false, false, false, false, false, true, false, false, false, false, false] rfl rfl (any_of HT_.out (by kernel_rfl)) (fun _ _ _ h => h) (Or.inl ⟨by rfl, ?_⟩) ?_ ?_
                    rotate_left
                    · intro w'
                      go_simp
                      with_reducible rfl
                    rotate_left
                    · simp only [Act.put, List.setIfInBounds_toArray, List.set_cons_zero, List.set_cons_succ, i64_w, i32_w]
                      rfl
                    refine take_ (i := 12) (N := some 26) (v := ?_) (a' := ?_) #[true, true, false, false, false, true, true, true, false, false, false, true, true, false, false, false, false, true, false, false, false, false, false] rfl rfl (take_ofW HT_.out HW_.out (by kernel_rfl)) (fun _ _ _ h => h) (Or.inl ⟨by rfl, ?_⟩) hHeld ?_ ?_
                    rotate_left
                    · rintro w' ⟨s0, s1, s2, s3⟩
                      go_simp
                      with_reducible rfl
                    rotate_left
                    · simp only [Act.put, List.setIfInBounds_toArray, List.set_cons_zero, List.set_cons_succ, i64_w, i32_w]
                      rfl
                    refine pure_ (i := 13) (N := some 27) (v := ?_) (a' := ?_) #[true, true, false, false, false, true, true, true, false, false, false, true, true, true, false, false, false, true, false, false, false, false, false] rfl rfl (any_of HT_.out (by kernel_rfl)) (fun _ _ _ h => h) (Or.inl ⟨by rfl, ?_⟩) ?_ ?_
                    rotate_left
                    · intro w'
                      go_simp
                      with_reducible rfl
                    rotate_left
                    · simp only [Act.put, List.setIfInBounds_toArray, List.set_cons_zero, List.set_cons_succ, i64_w, i32_w]
                      rfl
                    refine take_ (i := 18) (N := some 32) (v := ?_) (a' := ?_) #[true, true, false, false, false, true, true, true, false, false, false, true, true, true, false, false, false, true, true, false, false, false, false] rfl rfl (take_ofW HT_.out HW_.out (by kernel_rfl)) (fun _ _ _ h => h) (Or.inl ⟨by rfl, ?_⟩) hHeld ?_ ?_
                    rotate_left
                    · rintro w' ⟨s0, s1, s2, s3⟩
                      go_simp
                      with_reducible rfl
                    rotate_left
                    · simp only [Act.put, List.setIfInBounds_toArray, List.set_cons_zero, List.set_cons_succ, i64_w, i32_w]
                      rfl
                    refine one_ (i := 2) (N := some 16) #[true, true, true, false, false, true, true, true, false, false, false, true, true, true, false, false, false, true, true, false, false, false, false] rfl rfl (one_of HT_.out (by kernel_rfl)) (by decide) (fun K hK => ?_)
                    refine goes_ Tryd.func43 (by kernel_rfl) rfl #[.int .i64 a0_0] (by rfl) rfl rfl (by (try simp only [List.map_toArray, List.map_cons, List.map_nil]); first | done | rfl | (simp only [List.length_drop, List.length_take]; rfl)) ?_
                    with_reducible refine (kauditref03_Name.calls k a0_0 t229 _ A4.out).mono ?_
                    rintro e w20 ⟨rfl, hb⟩
                    refine ⟨_, rfl, ?_⟩
                    have n0_ := Aside0.mk (blk_below (g := gb227) (o := .cells #[.int .i64 a0_0, .int .i64 a0_1, .int .i64 a0_2, .slice A0_3 l0_3.length c0_3] 50 (0, 0)) (by (with_reducible repeat (first | refine blk_drewN ?_ _ | refine blk_drew ?_ | refine blk_alloc ?_ _)); exact BK227.out) hb)
                    have n1_ := Aside0.mk (below_step (by repeat (first | (with_reducible first | exact HB.out | apply below_alloc | apply pw_below_drewN | apply below_drew1 | refine below_set ?_ GE227.out) | exact HB.out)) hb)
                    clear BK227
                    clear HB
                    have BK227 := n0_
                    have HB := n1_
                    clear n0_ n1_
                    (try clear hb)
                    (try clear hb2)
                    (try clear hk)
                    (try clear hi)
                    refine hK.out _ _ ⟨(blk_cell BK227.out 0).trans rfl, (blk_cell BK227.out 1).trans rfl, (blk_cell BK227.out 2).trans rfl, (blk_cell BK227.out 3).trans rfl⟩ (fun hHeld => ?_)
                    clear hK K
                    refine norm_ (a' := ?_) ?_ ?_
                    rotate_left
                    · show Act.put _ (some 16) _ = _
                      simp only [Act.put, List.setIfInBounds_toArray, List.set_cons_zero, List.set_cons_succ, i64_w, i32_w]
                      rfl
                    refine pure_ (i := 3) (N := some 17) (v := ?_) (a' := ?_) #[true, true, true, true, false, true, true, true, false, false, false, true, true, true, false, false, false, true, true, false, false, false, false] rfl rfl (any_of HT_.out (by kernel_rfl)) (fun _ _ _ h => h) (Or.inl ⟨by rfl, ?_⟩) ?_ ?_
                    rotate_left
                    · intro w'
                      go_simp
                      with_reducible rfl
                    rotate_left
                    · simp only [Act.put, List.setIfInBounds_toArray, List.set_cons_zero, List.set_cons_succ, i64_w, i32_w]
                      rfl
                    refine pure_ (i := 4) (N := some 18) (v := ?_) (a' := ?_) #[true, true, true, true, true, true, true, true, false, false, false, true, true, true, false, false, false, true, true, false, false, false, false] rfl rfl (any_of HT_.out (by kernel_rfl)) (fun _ _ _ h => h) (Or.inl ⟨by rfl, ?_⟩) ?_ ?_
                    rotate_left
                    · intro w'
                      go_simp
                      with_reducible rfl
                    rotate_left
                    · simp only [Act.put, List.setIfInBounds_toArray, List.set_cons_zero, List.set_cons_succ, i64_w, i32_w]
                      rfl
                    refine one_ (i := 8) (N := some 22) #[true, true, true, true, true, true, true, true, true, false, false, true, true, true, false, false, false, true, true, false, false, false, false] rfl rfl (one_of HT_.out (by kernel_rfl)) (by decide) (fun K hK => ?_)
                    refine goes_ Tryd.func113 (by kernel_rfl) rfl #[.int .i64 (wrap64 (Int.tdiv a0_1 1000))] (by rfl) rfl rfl (by (try simp only [List.map_toArray, List.map_cons, List.map_nil]); first | done | rfl | (simp only [List.length_drop, List.length_take]; rfl)) ?_
                    with_reducible refine (kauditref01_Decimal.calls (wrap64 (Int.tdiv a0_1 1000)) t230 _ A7.out).mono ?_
                    rintro e w21 ⟨rfl, hb⟩
                    refine ⟨_, rfl, ?_⟩
                    have n0_ := Aside0.mk (blk_below (g := gb227) (o := .cells #[.int .i64 a0_0, .int .i64 a0_1, .int .i64 a0_2, .slice A0_3 l0_3.length c0_3] 50 (0, 0)) (by (with_reducible repeat (first | refine blk_drewN ?_ _ | refine blk_drew ?_ | refine blk_alloc ?_ _)); exact BK227.out) hb)
                    have n1_ := Aside0.mk (below_step (by repeat (first | (with_reducible first | exact HB.out | apply below_alloc | apply pw_below_drewN | apply below_drew1 | refine below_set ?_ GE227.out) | exact HB.out)) hb)
                    clear BK227
                    clear HB
                    have BK227 := n0_
                    have HB := n1_
                    clear n0_ n1_
                    (try clear hb)
                    (try clear hb2)
                    (try clear hk)
                    (try clear hi)
                    refine hK.out _ _ ⟨(blk_cell BK227.out 0).trans rfl, (blk_cell BK227.out 1).trans rfl, (blk_cell BK227.out 2).trans rfl, (blk_cell BK227.out 3).trans rfl⟩ (fun hHeld => ?_)
                    clear hK K
                    refine norm_ (a' := ?_) ?_ ?_
                    rotate_left
                    · show Act.put _ (some 22) _ = _
                      simp only [Act.put, List.setIfInBounds_toArray, List.set_cons_zero, List.set_cons_succ, i64_w, i32_w]
                      rfl
                    refine pure_ (i := 9) (N := some 23) (v := ?_) (a' := ?_) #[true, true, true, true, true, true, true, true, true, true, false, true, true, true, false, false, false, true, true, false, false, false, false] rfl rfl (any_of HT_.out (by kernel_rfl)) (fun _ _ _ h => h) (Or.inl ⟨by rfl, ?_⟩) ?_ ?_
                    rotate_left
                    · intro w'
                      go_simp
                      with_reducible rfl
                    rotate_left
                    · simp only [Act.put, List.setIfInBounds_toArray, List.set_cons_zero, List.set_cons_succ, i64_w, i32_w]
                      rfl
                    refine pure_ (i := 10) (N := some 24) (v := ?_) (a' := ?_) #[true, true, true, true, true, true, true, true, true, true, true, true, true, true, false, false, false, true, true, false, false, false, false] rfl rfl (any_of HT_.out (by kernel_rfl)) (fun _ _ _ h => h) (Or.inl ⟨by rfl, ?_⟩) ?_ ?_
                    rotate_left
                    · intro w'
                      go_simp
                      with_reducible rfl
                    rotate_left
                    · simp only [Act.put, List.setIfInBounds_toArray, List.set_cons_zero, List.set_cons_succ, i64_w, i32_w]
                      rfl
                    refine one_ (i := 14) (N := some 28) #[true, true, true, true, true, true, true, true, true, true, true, true, true, true, true, false, false, true, true, false, false, false, false] rfl rfl (one_of HT_.out (by kernel_rfl)) (by decide) (fun K hK => ?_)
                    refine goes_ Tryd.func114 (by kernel_rfl) rfl #[.int .i64 (Int.tmod a0_1 1000)] (by rfl) rfl rfl (by (try simp only [List.map_toArray, List.map_cons, List.map_nil]); first | done | rfl | (simp only [List.length_drop, List.length_take]; rfl)) ?_
                    with_reducible refine (kauditref03_three.calls (Int.tmod a0_1 1000) t231 _ A10.out).mono ?_
                    rintro e w22 ⟨rfl, hb⟩
                    refine ⟨_, rfl, ?_⟩
                    have n0_ := Aside0.mk (blk_below (g := gb227) (o := .cells #[.int .i64 a0_0, .int .i64 a0_1, .int .i64 a0_2, .slice A0_3 l0_3.length c0_3] 50 (0, 0)) (by (with_reducible repeat (first | refine blk_drewN ?_ _ | refine blk_drew ?_ | refine blk_alloc ?_ _)); exact BK227.out) hb)
                    have n1_ := Aside0.mk (below_step (by repeat (first | (with_reducible first | exact HB.out | apply below_alloc | apply pw_below_drewN | apply below_drew1 | refine below_set ?_ GE227.out) | exact HB.out)) hb)
                    clear BK227
                    clear HB
                    have BK227 := n0_
                    have HB := n1_
                    clear n0_ n1_
                    (try clear hb)
                    (try clear hb2)
                    (try clear hk)
                    (try clear hi)
                    refine hK.out _ _ ⟨(blk_cell BK227.out 0).trans rfl, (blk_cell BK227.out 1).trans rfl, (blk_cell BK227.out 2).trans rfl, (blk_cell BK227.out 3).trans rfl⟩ (fun hHeld => ?_)
                    clear hK K
                    refine norm_ (a' := ?_) ?_ ?_
                    rotate_left
                    · show Act.put _ (some 28) _ = _
                      simp only [Act.put, List.setIfInBounds_toArray, List.set_cons_zero, List.set_cons_succ, i64_w, i32_w]
                      rfl
                    refine pure_ (i := 15) (N := some 29) (v := ?_) (a' := ?_) #[true, true, true, true, true, true, true, true, true, true, true, true, true, true, true, true, false, true, true, false, false, false, false] rfl rfl (any_of HT_.out (by kernel_rfl)) (fun _ _ _ h => h) (Or.inl ⟨by rfl, ?_⟩) ?_ ?_
                    rotate_left
                    · intro w'
                      go_simp
                      with_reducible rfl
                    rotate_left
                    · simp only [Act.put, List.setIfInBounds_toArray, List.set_cons_zero, List.set_cons_succ, i64_w, i32_w]
                      rfl
                    refine pure_ (i := 16) (N := some 30) (v := ?_) (a' := ?_) #[true, true, true, true, true, true, true, true, true, true, true, true, true, true, true, true, true, true, true, false, false, false, false] rfl rfl (any_of HT_.out (by kernel_rfl)) (fun _ _ _ h => h) (Or.inl ⟨by rfl, ?_⟩) ?_ ?_
                    rotate_left
                    · intro w'
                      go_simp
                      with_reducible rfl
                    rotate_left
                    · simp only [Act.put, List.setIfInBounds_toArray, List.set_cons_zero, List.set_cons_succ, i64_w, i32_w]
                      rfl
                    refine one_ (i := 19) (N := some 33) #[true, true, true, true, true, true, true, true, true, true, true, true, true, true, true, true, true, true, true, true, false, false, false] rfl rfl (one_of HT_.out (by kernel_rfl)) (by decide) (fun K hK => ?_)
                    refine goes_ Tryd.func113 (by kernel_rfl) rfl #[.int .i64 a0_2] (by rfl) rfl rfl (by (try simp only [List.map_toArray, List.map_cons, List.map_nil]); first | done | rfl | (simp only [List.length_drop, List.length_take]; rfl)) ?_
                    with_reducible refine (kauditref01_Decimal.calls a0_2 t232 _ A13.out).mono ?_
                    rintro e w23 ⟨rfl, hb⟩
                    refine ⟨_, rfl, ?_⟩
                    have n0_ := Aside0.mk (blk_below (g := gb227) (o := .cells #[.int .i64 a0_0, .int .i64 a0_1, .int .i64 a0_2, .slice A0_3 l0_3.length c0_3] 50 (0, 0)) (by (with_reducible repeat (first | refine blk_drewN ?_ _ | refine blk_drew ?_ | refine blk_alloc ?_ _)); exact BK227.out) hb)
                    have n1_ := Aside0.mk (below_step (by repeat (first | (with_reducible first | exact HB.out | apply below_alloc | apply pw_below_drewN | apply below_drew1 | refine below_set ?_ GE227.out) | exact HB.out)) hb)
                    clear BK227
                    clear HB
                    have BK227 := n0_
                    have HB := n1_
                    clear n0_ n1_
                    (try clear hb)
                    (try clear hb2)
                    (try clear hk)
                    (try clear hi)
                    refine hK.out _ _ ⟨(blk_cell BK227.out 0).trans rfl, (blk_cell BK227.out 1).trans rfl, (blk_cell BK227.out 2).trans rfl, (blk_cell BK227.out 3).trans rfl⟩ (fun hHeld => ?_)
                    clear hK K
                    refine norm_ (a' := ?_) ?_ ?_
                    rotate_left
                    · show Act.put _ (some 33) _ = _
                      simp only [Act.put, List.setIfInBounds_toArray, List.set_cons_zero, List.set_cons_succ, i64_w, i32_w]
                      rfl
                    refine pure_ (i := 20) (N := some 34) (v := ?_) (a' := ?_) #[true, true, true, true, true, true, true, true, true, true, true, true, true, true, true, true, true, true, true, true, true, false, false] rfl rfl (any_of HT_.out (by kernel_rfl)) (fun _ _ _ h => h) (Or.inl ⟨by rfl, ?_⟩) ?_ ?_
                    rotate_left
                    · intro w'
                      go_simp
                      with_reducible rfl
                    rotate_left
                    · simp only [Act.put, List.setIfInBounds_toArray, List.set_cons_zero, List.set_cons_succ, i64_w, i32_w]
                      rfl
                    refine pure_ (i := 21) (N := some 35) (v := ?_) (a' := ?_) #[true, true, true, true, true, true, true, true, true, true, true, true, true, true, true, true, true, true, true, true, true, true, false] rfl rfl (any_of HT_.out (by kernel_rfl)) (fun _ _ _ h => h) (Or.inl ⟨by rfl, ?_⟩) ?_ ?_
                    rotate_left
                    · intro w'
                      go_simp
                      with_reducible rfl
                    rotate_left
                    · simp only [Act.put, List.setIfInBounds_toArray, List.set_cons_zero, List.set_cons_succ, i64_w, i32_w]
                      rfl
                    refine pure_ (i := 22) (N := some 5) (v := ?_) (a' := ?_) #[true, true, true, true, true, true, true, true, true, true, true, true, true, true, true, true, true, true, true, true, true, true, true] rfl rfl (any_of HT_.out (by kernel_rfl)) (fun _ _ _ h => h) (Or.inl ⟨by rfl, ?_⟩) ?_ ?_
                    rotate_left
                    · intro w'
                      go_simp
                      with_reducible rfl
                    rotate_left
                    · simp only [Act.put, List.setIfInBounds_toArray, List.set_cons_zero, List.set_cons_succ, i64_w, i32_w]
                      rfl
                    refine done_ (done_of HT_.out (by kernel_rfl)) ?_
                    try go_wp2
                    go_loopg [5, 6] k (fun kq v5 v6 w' => ∃ (x5_1 : ByteArray) (x6_1 : Int), v5 = .string x5_1 ∧ v6 = .int .i64 x6_1 ∧ Aside0 (kauditref03_Format.l0 kq x5_1 x6_1 a0_0 a0_1 a0_2 l0_3 = some (r1, r2)) ∧ Aside0 (kq ≤ k) ∧ Aside0 (w'.heap[gb227]? = some (.cells #[.int .i64 a0_0, .int .i64 a0_1, .int .i64 a0_2, (.slice A0_3 l0_3.length c0_3)] 50 (0, 0))) ∧ Aside0 (Below w.heap.size w w'))
                    case atStart => exact ⟨(((((((((⟨#[116, 121, 112, 101, 61]⟩ : ByteArray) ++ t229) ++ (⟨#[32, 109, 115, 103, 61, 97, 117, 100, 105, 116, 40]⟩ : ByteArray)) ++ t230) ++ (⟨#[46]⟩ : ByteArray)) ++ t231) ++ (⟨#[58]⟩ : ByteArray)) ++ t232) ++ (⟨#[41, 58]⟩ : ByteArray)), (0), (by first | rfl | (simp; done) | (simp [*]; done) | (simp only [isEmpty_ne_]; done)), (by first | rfl | (simp; done) | (simp [*]; done) | (simp only [isEmpty_ne_]; done)), H', ⟨Nat.le_refl _⟩, ⟨by (with_reducible repeat (first | refine blk_drewN ?_ _ | refine blk_drew ?_ | refine blk_alloc ?_ _)); exact BK227.out⟩, ⟨by repeat (first | (with_reducible first | exact HB.out | apply below_alloc | apply pw_below_drewN | apply below_drew1 | refine below_set ?_ GE227.out) | exact HB.out)⟩⟩
                    case round =>
                      clear H'
                      try clear c1
                      try clear p2
                      try clear c3
                      try clear c3b0
                      try clear c3b1
                      try clear c4
                      try clear c5
                      try clear c5b0
                      try clear c5b1
                      try clear c5b2
                      try clear c6
                      try clear c6b0
                      try clear c6b1
                      try clear c6b2
                      try clear p6
                      try clear c7
                      try clear c8
                      try clear c8b0
                      try clear c8b1
                      try clear c8b2
                      try clear c9
                      try clear c9b0
                      try clear c9b1
                      try clear c9b2
                      try clear c11
                      try clear c11b0
                      try clear c11b1
                      try clear c11b2
                      try clear c12
                      try clear c12b0
                      try clear c12b1
                      try clear c12b2
                      try clear c14
                      try clear c14b0
                      try clear c14b1
                      try clear c14b2
                      try clear c15
                      try clear c15b0
                      try clear c15b1
                      try clear c15b2
                      try clear hcz17_0
                      try clear hcz17_1
                      try clear hcz17_2
                      try clear hcz17_3
                      try clear hfz17_0
                      try clear hfz17_1
                      try clear hfz17_2
                      try clear hfz17_3
                      obtain ⟨x5_1, x6_1, rfl, rfl, HA, HK1, BK227, HB⟩ := hrel
                      cases gk with
                      | zero => exact absurd HA.out (by simp [kauditref03_Format.l0])
                      | succ k1 =>
                        have H := HA.out
                        clear HA
                        simp only [kauditref03_Format.l0] at H
                        by_cases c24 : x6_1 < (l0_3.length : Int)
                        · rw [if_pos c24] at H
                          have c24b0 : decide (x6_1 < (l0_3.length : Int)) = true := decide_eq_true c24
                          clear c24
                          by_cases c25 : 0 ≤ x6_1
                          · rw [if_pos c25] at H
                            have c25b0 : decide (0 ≤ x6_1) = true := decide_eq_true c25
                            clear c25
                            replace H := Option.bind_eq_some_iff.mp H
                            obtain ⟨⟨t234, t235⟩, A260, H⟩ := H
                            replace H : (if 1 + t234.size ≤ 9223372036854775807 then (if x5_1.size + 1 + t234.size ≤ 9223372036854775807 then (kauditref03_Format.l0 k1 (x5_1 ++ ((⟨#[32]⟩ : ByteArray) ++ t234)) (wrap64 (x6_1 + 1)) a0_0 a0_1 a0_2 l0_3) else (none)) else (none)) = some (r1, r2) := H
                            have A26 := Aside0.mk A260
                            clear A260
                            by_cases c27 : 1 + t234.size ≤ 9223372036854775807
                            · rw [if_pos c27] at H
                              have c27b0 := eq_true c27
                              have c27b1 : decide (1 + t234.size ≤ 9223372036854775807) = true := decide_eq_true c27
                              try have c27b2 : (9223372036854775807 < 1 + t234.size) = False := eq_false (Nat.not_lt.2 c27)
                              by_cases c28 : x5_1.size + 1 + t234.size ≤ 9223372036854775807
                              · rw [if_pos c28] at H
                                have c28b0 := eq_true c28
                                have c28b1 : decide (x5_1.size + 1 + t234.size ≤ 9223372036854775807) = true := decide_eq_true c28
                                try have c28b2 : (9223372036854775807 < x5_1.size + 1 + t234.size) = False := eq_false (Nat.not_lt.2 c28)
                                have H' := Aside0.mk H
                                clear H
                                have hcz29_0 : wr.cell? ⟨gb227, 0, none⟩ = some (.int .i64 a0_0) := (blk_cell BK227.out 0).trans rfl
                                have hcz29_1 : wr.cell? ⟨gb227, 1, none⟩ = some (.int .i64 a0_1) := (blk_cell BK227.out 1).trans rfl
                                have hcz29_2 : wr.cell? ⟨gb227, 2, none⟩ = some (.int .i64 a0_2) := (blk_cell BK227.out 2).trans rfl
                                have hcz29_3 : wr.cell? ⟨gb227, 3, none⟩ = some (.slice A0_3 l0_3.length c0_3) := (blk_cell BK227.out 3).trans rfl
                                have hfz29_0 := blk_frozen BK227.out 0
                                have hfz29_1 := blk_frozen BK227.out 1
                                have hfz29_2 := blk_frozen BK227.out 2
                                have hfz29_3 := blk_frozen BK227.out 3
                                have p233 : 0 ≤ (x6_1 : Int) := of_decide_eq_true (by first | (with_reducible assumption) | assumption)
                                have q233 : x6_1 < (l0_3.length : Int) := of_decide_eq_true (by first | (with_reducible assumption) | assumption)
                                obtain ⟨ad233, e233, hx233_0, hx233_1, hx233_2, hx233_3⟩ := at_T34 HR0_3.out x6_1 p233 q233
                                cases e233
                                replace hx233_0 := (HB.out.cell (World.block_lt_of_cell? w _ hx233_0)).trans hx233_0
                                replace hx233_1 := (HB.out.cell (World.block_lt_of_cell? w _ hx233_1)).trans hx233_1
                                replace hx233_2 := (HB.out.cell (World.block_lt_of_cell? w _ hx233_2)).trans hx233_2
                                replace hx233_3 := (HB.out.cell (World.block_lt_of_cell? w _ hx233_3)).trans hx233_3
                                replace p233 := eq_true p233
                                replace q233 := eq_true q233
                                go_wp2_with (first | ((with_reducible refine gate_callee (f := 115) rfl ?_); refine goesL_ (some 49) rfl rfl Tryd.func115 (by kernel_rfl) rfl #[.agg #[.string ((rd_T34 l0_3 x6_1).f0), .int .i64 ((rd_T34 l0_3 x6_1).f1), .int .i64 ((rd_T34 l0_3 x6_1).f2), .string ((rd_T34 l0_3 x6_1).f3)]] rfl (by (try simp only [List.map_toArray, List.map_cons, List.map_nil]); first | done | rfl | (simp only [List.length_drop, List.length_take]; rfl)) ?_; (with_reducible refine (kauditref02_Format.calls k1 ((rd_T34 l0_3 x6_1).f0) ((rd_T34 l0_3 x6_1).f1) ((rd_T34 l0_3 x6_1).f2) ((rd_T34 l0_3 x6_1).f3) t234 t235 _ A26.out).mono ?_); rintro e w30 ⟨rfl, hb⟩; refine ⟨_, rfl, ?_⟩; have n0_ := Aside0.mk (blk_below (g := gb227) (o := .cells #[.int .i64 a0_0, .int .i64 a0_1, .int .i64 a0_2, .slice (some ad233) l0_3.length c0_3] 50 (0, 0)) (by (with_reducible repeat (first | refine blk_drewN ?_ _ | refine blk_drew ?_ | refine blk_alloc ?_ _)); exact BK227.out) hb); have n1_ := Aside0.mk (below_step (by repeat (first | (with_reducible first | exact HB.out | apply below_alloc | apply pw_below_drewN | apply below_drew1 | refine below_set ?_ GE227.out) | exact HB.out)) hb); clear BK227; clear HB; have BK227 := n0_; have HB := n1_; clear n0_ n1_; (try clear hb); (try clear hb2); (try clear hk); (try clear hi)))
                                go_roundg k1
                                case measure => have := HK1.out; omega
                                case rel => exact ⟨(x5_1 ++ ((⟨#[32]⟩ : ByteArray) ++ t234)), (wrap64 (x6_1 + 1)), (by first | rfl | (simp; done) | (simp [*]; done) | (simp only [isEmpty_ne_]; done)), (by first | rfl | (simp; done) | (simp [*]; done) | (simp only [isEmpty_ne_]; done)), H', ⟨by have := HK1.out; omega⟩, ⟨by (with_reducible repeat (first | refine blk_drewN ?_ _ | refine blk_drew ?_ | refine blk_alloc ?_ _)); exact BK227.out⟩, ⟨by repeat (first | (with_reducible first | exact HB.out | apply below_alloc | apply pw_below_drewN | apply below_drew1 | refine below_set ?_ GE227.out) | exact HB.out)⟩⟩
                              · rw [if_neg c28] at H
                                exact absurd H (by simp)
                            · rw [if_neg c27] at H
                              exact absurd H (by simp)
                          · rw [if_neg c25] at H
                            exact absurd H (by simp)
                        · rw [if_neg c24] at H
                          have c24b0 : decide (x6_1 < (l0_3.length : Int)) = false := decide_eq_false c24
                          clear c24
                          simp only [Option.some.injEq, Prod.mk.injEq] at H
                          obtain ⟨rfl, rfl⟩ := H
                          have hcz31_0 : wr.cell? ⟨gb227, 0, none⟩ = some (.int .i64 a0_0) := (blk_cell BK227.out 0).trans rfl
                          have hcz31_1 : wr.cell? ⟨gb227, 1, none⟩ = some (.int .i64 a0_1) := (blk_cell BK227.out 1).trans rfl
                          have hcz31_2 : wr.cell? ⟨gb227, 2, none⟩ = some (.int .i64 a0_2) := (blk_cell BK227.out 2).trans rfl
                          have hcz31_3 : wr.cell? ⟨gb227, 3, none⟩ = some (.slice A0_3 l0_3.length c0_3) := (blk_cell BK227.out 3).trans rfl
                          have hfz31_0 := blk_frozen BK227.out 0
                          have hfz31_1 := blk_frozen BK227.out 1
                          have hfz31_2 := blk_frozen BK227.out 2
                          have hfz31_3 := blk_frozen BK227.out 3
                          go_wp2
                          go_ret2
                          exact ⟨by first | rfl | (simp [errW_none, errW_some] <;> rfl) | (simp [*, errW_none, errW_some] <;> rfl) | (simp only [isEmpty_ne_, isEmpty_eq_]; rfl) | (simp [*, isEmpty_ne_, isEmpty_eq_]; done), by repeat (first | (with_reducible first | exact HB.out | apply below_alloc | apply pw_below_drewN | apply below_drew1 | refine below_set ?_ GE227.out) | exact HB.out)⟩
                  · rw [if_neg c15] at H
                    exact absurd H (by simp)
                · rw [if_neg c14] at H
                  exact absurd H (by simp)
              · rw [if_neg c12] at H
                exact absurd H (by simp)
            · rw [if_neg c11] at H
              exact absurd H (by simp)
          · rw [if_neg c9] at H
            exact absurd H (by simp)
        · rw [if_neg c8] at H
          exact absurd H (by simp)
      · rw [if_neg c6] at H
        exact absurd H (by simp)
    · rw [if_neg c5] at H
      exact absurd H (by simp)
  · rw [if_neg c3] at H
    have c3b0 : (t228 == 0) = false := beq_eq_false_iff_ne.mpr c3
    have c3b1 : (t228 != 0) = true := bne_iff_ne.mpr c3
    simp only [Option.some.injEq, Prod.mk.injEq] at H
    obtain ⟨rfl, rfl⟩ := H
    go_enter Tryd.func71, Tryd.ntmps71
    go_wp2_with (first | ((with_reducible refine gate_dst (N := 1) rfl ?_); refine box_event ?hg (N := 1) ?hd (cs := #[.int .i64 a0_0, .int .i64 a0_1, .int .i64 a0_2, .slice A0_3 l0_3.length c0_3]) (t := 50) ?hr ?_; (case hd => rfl); (case hg => rfl); (case hr => first | (go_simp; done) | (go_simp; rfl)); intro gb227 hg w32 hbox hb; have n0_ := Aside0.mk (below_step (by repeat (first | (with_reducible first | exact HB.out | apply below_alloc | apply pw_below_drewN | apply below_drew1) | exact HB.out)) hb); have n1_ := Aside0.mk (hbox); have n2_ := Aside0.mk ((by rw [hg]; exact (below_size (by repeat (first | (with_reducible first | exact HB.out | apply below_alloc | apply pw_below_drewN | apply below_drew1) | exact HB.out))) : w.heap.size ≤ gb227)); have n3_ := Aside0.mk ((by rw [hg]; exact (below_size (by repeat (first | (with_reducible first | exact HB.out | apply below_alloc | apply pw_below_drewN | apply below_drew1) | exact HB.out))) : w.heap.size ≤ gb227)); clear HB; have HB := n0_; have BK227 := n1_; have GW227 := n2_; have GE227 := n3_; clear n0_ n1_ n2_ n3_; clear hb hbox hg; have hcz33_0 : w32.cell? ⟨gb227, 0, none⟩ = some (.int .i64 a0_0) := (blk_cell BK227.out 0).trans rfl; have hcz33_1 : w32.cell? ⟨gb227, 1, none⟩ = some (.int .i64 a0_1) := (blk_cell BK227.out 1).trans rfl; have hcz33_2 : w32.cell? ⟨gb227, 2, none⟩ = some (.int .i64 a0_2) := (blk_cell BK227.out 2).trans rfl; have hcz33_3 : w32.cell? ⟨gb227, 3, none⟩ = some (.slice A0_3 l0_3.length c0_3) := (blk_cell BK227.out 3).trans rfl; have hfz33_0 := blk_frozen BK227.out 0; have hfz33_1 := blk_frozen BK227.out 1; have hfz33_2 := blk_frozen BK227.out 2; have hfz33_3 := blk_frozen BK227.out 3) | ((with_reducible refine gate_callee (f := 73) rfl ?_); refine goesL_ (some 10) rfl rfl Tryd.func73 (by kernel_rfl) rfl #[.agg #[.int .i64 a0_0, .int .i64 a0_1, .int .i64 a0_2, .slice A0_3 l0_3.length c0_3]] rfl (by (try simp only [List.map_toArray, List.map_cons, List.map_nil]); first | done | rfl | (simp only [List.length_drop, List.length_take]; rfl)) ?_; (with_reducible refine (kauditref03_Check.calls k a0_0 a0_1 a0_2 _ _ l0_3 t228 _ ?side1 ?side2 A2.out).mono ?_); (case side1 => repeat (first | exact (Kd.C_below HR0_3.out HB.out) | (with_reducible refine Kd.C_alloc ?_ _) | (with_reducible refine Kd.C_drewN ?_ _) | (with_reducible refine Kd.C_drew ?_))); (case side2 => exact HC0_3.out); rintro e w34 ⟨rfl, hb⟩; refine ⟨_, rfl, ?_⟩; have n0_ := Aside0.mk (blk_below (g := gb227) (o := .cells #[.int .i64 a0_0, .int .i64 a0_1, .int .i64 a0_2, .slice A0_3 l0_3.length c0_3] 50 (0, 0)) (by (with_reducible repeat (first | refine blk_drewN ?_ _ | refine blk_drew ?_ | refine blk_alloc ?_ _)); exact BK227.out) hb); have n1_ := Aside0.mk (below_step (by repeat (first | (with_reducible first | exact HB.out | apply below_alloc | apply pw_below_drewN | apply below_drew1 | refine below_set ?_ GE227.out) | exact HB.out)) hb); clear BK227; clear HB; have BK227 := n0_; have HB := n1_; clear n0_ n1_; (try clear hb); (try clear hb2); (try clear hk); (try clear hi)))
    go_ret2
    exact ⟨by first | rfl | (simp [errW_none, errW_some] <;> rfl) | (simp [*, errW_none, errW_some] <;> rfl) | (simp only [isEmpty_ne_, isEmpty_eq_]; rfl) | (simp [*, isEmpty_ne_, isEmpty_eq_]; done), by repeat (first | (with_reducible first | exact HB.out | apply below_alloc | apply pw_below_drewN | apply below_drew1 | refine below_set ?_ GE227.out) | exact HB.out)⟩

end Go.Proofs.YtjnlmmjadlidlaaDoor.PRec
