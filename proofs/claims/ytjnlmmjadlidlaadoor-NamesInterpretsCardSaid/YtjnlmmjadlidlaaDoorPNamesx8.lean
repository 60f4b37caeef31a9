-- Written by a program of mine (wip/kprint.sh): a plain Lean function for each Go function, and the proof that the Go code comes to its answers. Not trusted: Lean checks it.
import Derived.Test.YtjnlmmjadlidlaaDoorPNamesx0
import Derived.Test.YtjnlmmjadlidlaaDoorPNamesx1
import Derived.Test.YtjnlmmjadlidlaaDoorPNamesx2
import Derived.Test.YtjnlmmjadlidlaaDoorPNamesx3
import Derived.Test.YtjnlmmjadlidlaaDoorPNamesx4
import Derived.Test.YtjnlmmjadlidlaaDoorPNamesx5
import Derived.Test.YtjnlmmjadlidlaaDoorPNamesx6
import Derived.Test.YtjnlmmjadlidlaaDoorPNamesx7
import Derived.Test.YtjnlmmjadlidlaaDoorNE2
import Derived.Test.YtjnlmmjadlidlaaDoorNGL
namespace Go.Proofs.YtjnlmmjadlidlaaDoor.PNames
open Go.RowKit Go.Proofs.YtjnlmmjadlidlaaDoorW.PrintWords Go.Proofs.YtjnlmmjadlidlaaDoorW.PrintLast Go.Proofs.YtjnlmmjadlidlaaDoorW.PrintMore
attribute [local go_sem] max2_int min2_int max_two min_two max_three min_three max_four min_four   -- for this text's walks alone
set_option linter.unusedVariables false
set_option linter.unusedSimpArgs false

/-! ### kauditlaw37_NamesInterprets: function 4 -/
mutual
def kauditlaw37_NamesInterprets.l0 : Nat → List (S47) → Int → Int → List (S34) → List ByteArray → Int → Int → List Int → Int → Option (Bool)
  | 0, _, _, _, _, _, _, _, _, _ => none
  | k + 1, x1, x2, x4, x12, x26, x27, x28, x217000, x217001 => if x28 < x27 then (if 0 ≤ x28 then (if x28 < (x26.length : Int) then ((kauditmill_Num.f (rdOf ByteArray.empty x26 x28) x4).bind fun bt224 => ((kauditmill_Case_Pick.f x217000 x217001 (([0, 7, 8, 4294967295, (-2), (-13), (-111), 420, 15, 16, (-9223372036854775808)] : List Int))).bind fun bt231 => ((kauditmill_Num.f (rdOf ByteArray.empty x26 x28) bt231.1).bind fun bt233 => ((kauditmill_Str.f (rdOf ByteArray.empty x26 x28) (⟨#[55]⟩ : ByteArray)).bind fun bt237 => ((some (([(⟨bt224.1, bt224.2.1, bt224.2.2.1, bt224.2.2.2⟩ : S34), (⟨bt233.1, bt233.2.1, bt233.2.2.1, bt233.2.2.2⟩ : S34), (⟨bt237.1, bt237.2.1, bt237.2.2.1, bt237.2.2.2⟩ : S34)] : List (S34)) : List (S34))).bind fun y241 => (if x12.length + y241.length < 2932031007402 then (kauditlaw37_NamesInterprets.l0 k x1 x2 x4 (x12 ++ y241) x26 x27 (wrap64 (x28 + 1)) x217000 bt231.2) else (none))))))) else (none)) else (none)) else ((kauditmill_Case_Namings.f k x217000 x217001).bind fun bt247 => ((some (([bt247.1, x1] : List (List (S47))) : List (List (S47)))).bind fun y251 => (kauditlaw37_NamesInterprets.l1 k x2 x4 x12 y251 (y251.length : Int) 0 x217000 bt247.2)))
def kauditlaw37_NamesInterprets.l1 : Nat → Int → Int → List (S34) → List (List (S47)) → Int → Int → List Int → Int → Option (Bool)
  | 0, _, _, _, _, _, _, _, _ => none
  | k + 1, x2, x4, x12, x49, x50, x51, x217000, x217001 => if x51 < x50 then (if 0 ≤ x51 then (if x51 < (x49.length : Int) then (kauditlaw37_NamesInterprets.l2 k x2 x4 x12 (rd_L4 x49 x51) x49 x50 x51 x12 (x12.length : Int) 0 x217000 x217001) else (none)) else (none)) else (kauditlaw37_NamesInterprets.l4 k x4 (-1))
def kauditlaw37_NamesInterprets.l2 : Nat → Int → Int → List (S34) → List (S47) → List (List (S47)) → Int → Int → List (S34) → Int → Int → List Int → Int → Option (Bool)
  | 0, _, _, _, _, _, _, _, _, _, _, _, _ => none
  | k + 1, x2, x4, x12, x16, x49, x50, x51, x55, x56, x57, x217000, x217001 => if x57 < x56 then (if 0 ≤ x57 then (if x57 < (x55.length : Int) then ((kauditmill_Case_Int.f x217000 x217001 9).bind fun bt257 => ((some (([x2, bt257.1] : List Int) : List Int)).bind fun y259 => (kauditlaw37_NamesInterprets.l3 k x2 x4 x12 x16 x49 x50 x51 x55 x56 x57 y259 (y259.length : Int) 0 x217000 bt257.2 ((rd_T34 x55 x57).f0) ((rd_T34 x55 x57).f1) ((rd_T34 x55 x57).f2) ((rd_T34 x55 x57).f3)))) else (none)) else (none)) else (kauditlaw37_NamesInterprets.l1 k x2 x4 x12 x49 x50 (wrap64 (x51 + 1)) x217000 x217001)
def kauditlaw37_NamesInterprets.l3 : Nat → Int → Int → List (S34) → List (S47) → List (List (S47)) → Int → Int → List (S34) → Int → Int → List Int → Int → Int → List Int → Int → ByteArray → Int → Int → ByteArray → Option (Bool)
  | 0, _, _, _, _, _, _, _, _, _, _, _, _, _, _, _, _, _, _, _ => none
  | k + 1, x2, x4, x12, x16, x49, x50, x51, x55, x56, x57, x64, x65, x66, x217000, x217001, x257000, x257001, x257002, x257003 => if x66 < x65 then (if 0 ≤ x66 then (if x66 < (x64.length : Int) then ((names_Interpret.f k x16 (rd x64 x66) x257000 x257001 x257002 x257003).bind fun t263 => ((kauditref37_Interpret.f k x16 (rd x64 x66) x257000 x257001 x257002 x257003).bind fun t264 => (if t263.toList = t264.toList then ((names_Plain.f x257000 x257001 x257002 x257003).bind fun t265 => ((kauditref37_Plain.f x257000 x257001 x257002 x257003).bind fun t266 => (if t265.toList = t266.toList then (kauditlaw37_NamesInterprets.l3 k x2 x4 x12 x16 x49 x50 x51 x55 x56 x57 x64 x65 (wrap64 (x66 + 1)) x217000 x217001 x257000 x257001 x257002 x257003) else (some false)))) else (some false)))) else (none)) else (none)) else (kauditlaw37_NamesInterprets.l2 k x2 x4 x12 x16 x49 x50 x51 x55 x56 (wrap64 (x57 + 1)) x217000 x217001)
def kauditlaw37_NamesInterprets.l4 : Nat → Int → Int → Option (Bool)
  | 0, _, _ => none
  | k + 1, x4, x21 => if x21 < 120 then ((names_ErrorName.f x21).bind fun t270 => ((kauditref37_ErrorName.f k x21).bind fun t271 => (if t270.toList = t271.toList then (kauditlaw37_NamesInterprets.l4 k x4 (wrap64 (x21 + 1))) else (some false)))) else ((names_ErrorName.f x4).bind fun t267 => ((kauditref37_ErrorName.f k x4).bind fun t268 => (if t267.toList = t268.toList then ((kauditlaw37_begun.f k).bind fun t269 => (some t269)) else (some false))))
end
def kauditlaw37_NamesInterprets.f (k : Nat) (l0 : List Int) (l1 : List (S47)) (a2 : Int) (a3_0 : ByteArray) (a3_1 : Int) (a3_2 : Int) (a3_3 : ByteArray) (a4 : Int) : Option (Bool) := (kauditmill_New.f l0 100).bind fun bt214 => ((some (([(⟨#[117, 105, 100]⟩ : ByteArray), (⟨#[101, 117, 105, 100]⟩ : ByteArray), (⟨#[97, 117, 105, 100]⟩ : ByteArray), (⟨#[111, 117, 105, 100]⟩ : ByteArray), (⟨#[103, 105, 100]⟩ : ByteArray), (⟨#[101, 103, 105, 100]⟩ : ByteArray), (⟨#[111, 103, 105, 100]⟩ : ByteArray), (⟨#[115, 101, 115]⟩ : ByteArray), (⟨#[101, 120, 105, 116]⟩ : ByteArray), (⟨#[109, 111, 100, 101]⟩ : ByteArray), (⟨#[112, 101, 114, 109]⟩ : ByteArray), (⟨#[112, 105, 100]⟩ : ByteArray)] : List ByteArray) : List ByteArray)).bind fun y220 => (kauditlaw37_NamesInterprets.l0 k l1 a2 a4 (([(⟨a3_0, a3_1, a3_2, a3_3⟩ : S34)] : List (S34))) y220 (y220.length : Int) 0 bt214.1 bt214.2))
theorem kauditlaw37_NamesInterprets.mono_l : ∀ k, (∀ y0 y1 y2 y3 y4 y5 y6 y7 y8, LeO (kauditlaw37_NamesInterprets.l0 k y0 y1 y2 y3 y4 y5 y6 y7 y8) (kauditlaw37_NamesInterprets.l0 (k + 1) y0 y1 y2 y3 y4 y5 y6 y7 y8)) ∧ (∀ y0 y1 y2 y3 y4 y5 y6 y7, LeO (kauditlaw37_NamesInterprets.l1 k y0 y1 y2 y3 y4 y5 y6 y7) (kauditlaw37_NamesInterprets.l1 (k + 1) y0 y1 y2 y3 y4 y5 y6 y7)) ∧ (∀ y0 y1 y2 y3 y4 y5 y6 y7 y8 y9 y10 y11, LeO (kauditlaw37_NamesInterprets.l2 k y0 y1 y2 y3 y4 y5 y6 y7 y8 y9 y10 y11) (kauditlaw37_NamesInterprets.l2 (k + 1) y0 y1 y2 y3 y4 y5 y6 y7 y8 y9 y10 y11)) ∧ (∀ y0 y1 y2 y3 y4 y5 y6 y7 y8 y9 y10 y11 y12 y13 y14 y15 y16 y17 y18, LeO (kauditlaw37_NamesInterprets.l3 k y0 y1 y2 y3 y4 y5 y6 y7 y8 y9 y10 y11 y12 y13 y14 y15 y16 y17 y18) (kauditlaw37_NamesInterprets.l3 (k + 1) y0 y1 y2 y3 y4 y5 y6 y7 y8 y9 y10 y11 y12 y13 y14 y15 y16 y17 y18)) ∧ (∀ y0 y1, LeO (kauditlaw37_NamesInterprets.l4 k y0 y1) (kauditlaw37_NamesInterprets.l4 (k + 1) y0 y1))
  | 0 => ⟨fun _ _ _ _ _ _ _ _ _ r h => by simp [kauditlaw37_NamesInterprets.l0] at h, fun _ _ _ _ _ _ _ _ r h => by simp [kauditlaw37_NamesInterprets.l1] at h, fun _ _ _ _ _ _ _ _ _ _ _ _ r h => by simp [kauditlaw37_NamesInterprets.l2] at h, fun _ _ _ _ _ _ _ _ _ _ _ _ _ _ _ _ _ _ _ r h => by simp [kauditlaw37_NamesInterprets.l3] at h, fun _ _ r h => by simp [kauditlaw37_NamesInterprets.l4] at h⟩
  | k + 1 => by
    obtain ⟨ih0, ih1, ih2, ih3, ih4⟩ := kauditlaw37_NamesInterprets.mono_l k
    refine ⟨?_, ?_, ?_, ?_, ?_⟩
    · intro y0 y1 y2 y3 y4 y5 y6 y7 y8
      unfold kauditlaw37_NamesInterprets.l0
      repeat' first
      | (with_reducible exact ih0 _ _ _ _ _ _ _ _ _)
      | (with_reducible exact ih1 _ _ _ _ _ _ _ _)
      | (with_reducible exact ih2 _ _ _ _ _ _ _ _ _ _ _ _)
      | (with_reducible exact ih3 _ _ _ _ _ _ _ _ _ _ _ _ _ _ _ _ _ _ _)
      | (with_reducible exact ih4 _ _)
      | (with_reducible exact kauditlaw37_begun.mono _)
      | (with_reducible exact kauditmill_Case_Namings.mono _ _ _)
      | (with_reducible exact kauditref37_ErrorName.mono _ _)
      | (with_reducible exact kauditref37_Interpret.mono _ _ _ _ _ _ _)
      | (with_reducible exact names_Interpret.mono _ _ _ _ _ _ _)
      | (with_reducible exact LeO.refl _)
      | (with_reducible exact LeO.none _)
      | (with_reducible refine LeO.ite ?_ ?_)
      | (with_reducible refine LeO.bind ?_ (fun _ => ?_))
      | exact ih0 _ _ _ _ _ _ _ _ _
      | exact ih1 _ _ _ _ _ _ _ _
      | exact ih2 _ _ _ _ _ _ _ _ _ _ _ _
      | exact ih3 _ _ _ _ _ _ _ _ _ _ _ _ _ _ _ _ _ _ _
      | exact ih4 _ _
      | exact kauditlaw37_begun.mono _
      | exact kauditmill_Case_Namings.mono _ _ _
      | exact kauditref37_ErrorName.mono _ _
      | exact kauditref37_Interpret.mono _ _ _ _ _ _ _
      | exact names_Interpret.mono _ _ _ _ _ _ _
      | exact LeO.none _
      | refine LeO.ite ?_ ?_
      | refine LeO.bind ?_ (fun _ => ?_)
    · intro y0 y1 y2 y3 y4 y5 y6 y7
      unfold kauditlaw37_NamesInterprets.l1
      repeat' first
      | (with_reducible exact ih0 _ _ _ _ _ _ _ _ _)
      | (with_reducible exact ih1 _ _ _ _ _ _ _ _)
      | (with_reducible exact ih2 _ _ _ _ _ _ _ _ _ _ _ _)
      | (with_reducible exact ih3 _ _ _ _ _ _ _ _ _ _ _ _ _ _ _ _ _ _ _)
      | (with_reducible exact ih4 _ _)
      | (with_reducible exact kauditlaw37_begun.mono _)
      | (with_reducible exact kauditmill_Case_Namings.mono _ _ _)
      | (with_reducible exact kauditref37_ErrorName.mono _ _)
      | (with_reducible exact kauditref37_Interpret.mono _ _ _ _ _ _ _)
      | (with_reducible exact names_Interpret.mono _ _ _ _ _ _ _)
      | (with_reducible exact LeO.refl _)
      | (with_reducible exact LeO.none _)
      | (with_reducible refine LeO.ite ?_ ?_)
      | (with_reducible refine LeO.bind ?_ (fun _ => ?_))
      | exact ih0 _ _ _ _ _ _ _ _ _
      | exact ih1 _ _ _ _ _ _ _ _
      | exact ih2 _ _ _ _ _ _ _ _ _ _ _ _
      | exact ih3 _ _ _ _ _ _ _ _ _ _ _ _ _ _ _ _ _ _ _
      | exact ih4 _ _
      | exact kauditlaw37_begun.mono _
      | exact kauditmill_Case_Namings.mono _ _ _
      | exact kauditref37_ErrorName.mono _ _
      | exact kauditref37_Interpret.mono _ _ _ _ _ _ _
      | exact names_Interpret.mono _ _ _ _ _ _ _
      | exact LeO.none _
      | refine LeO.ite ?_ ?_
      | refine LeO.bind ?_ (fun _ => ?_)
    · intro y0 y1 y2 y3 y4 y5 y6 y7 y8 y9 y10 y11
      unfold kauditlaw37_NamesInterprets.l2
      repeat' first
      | (with_reducible exact ih0 _ _ _ _ _ _ _ _ _)
      | (with_reducible exact ih1 _ _ _ _ _ _ _ _)
      | (with_reducible exact ih2 _ _ _ _ _ _ _ _ _ _ _ _)
      | (with_reducible exact ih3 _ _ _ _ _ _ _ _ _ _ _ _ _ _ _ _ _ _ _)
      | (with_reducible exact ih4 _ _)
      | (with_reducible exact kauditlaw37_begun.mono _)
      | (with_reducible exact kauditmill_Case_Namings.mono _ _ _)
      | (with_reducible exact kauditref37_ErrorName.mono _ _)
      | (with_reducible exact kauditref37_Interpret.mono _ _ _ _ _ _ _)
      | (with_reducible exact names_Interpret.mono _ _ _ _ _ _ _)
      | (with_reducible exact LeO.refl _)
      | (with_reducible exact LeO.none _)
      | (with_reducible refine LeO.ite ?_ ?_)
      | (with_reducible refine LeO.bind ?_ (fun _ => ?_))
      | exact ih0 _ _ _ _ _ _ _ _ _
      | exact ih1 _ _ _ _ _ _ _ _
      | exact ih2 _ _ _ _ _ _ _ _ _ _ _ _
      | exact ih3 _ _ _ _ _ _ _ _ _ _ _ _ _ _ _ _ _ _ _
      | exact ih4 _ _
      | exact kauditlaw37_begun.mono _
      | exact kauditmill_Case_Namings.mono _ _ _
      | exact kauditref37_ErrorName.mono _ _
      | exact kauditref37_Interpret.mono _ _ _ _ _ _ _
      | exact names_Interpret.mono _ _ _ _ _ _ _
      | exact LeO.none _
      | refine LeO.ite ?_ ?_
      | refine LeO.bind ?_ (fun _ => ?_)
    · intro y0 y1 y2 y3 y4 y5 y6 y7 y8 y9 y10 y11 y12 y13 y14 y15 y16 y17 y18
      unfold kauditlaw37_NamesInterprets.l3
      repeat' first
      | (with_reducible exact ih0 _ _ _ _ _ _ _ _ _)
      | (with_reducible exact ih1 _ _ _ _ _ _ _ _)
      | (with_reducible exact ih2 _ _ _ _ _ _ _ _ _ _ _ _)
      | (with_reducible exact ih3 _ _ _ _ _ _ _ _ _ _ _ _ _ _ _ _ _ _ _)
      | (with_reducible exact ih4 _ _)
      | (with_reducible exact kauditlaw37_begun.mono _)
      | (with_reducible exact kauditmill_Case_Namings.mono _ _ _)
      | (with_reducible exact kauditref37_ErrorName.mono _ _)
      | (with_reducible exact kauditref37_Interpret.mono _ _ _ _ _ _ _)
      | (with_reducible exact names_Interpret.mono _ _ _ _ _ _ _)
      | (with_reducible exact LeO.refl _)
      | (with_reducible exact LeO.none _)
      | (with_reducible refine LeO.ite ?_ ?_)
      | (with_reducible refine LeO.bind ?_ (fun _ => ?_))
      | exact ih0 _ _ _ _ _ _ _ _ _
      | exact ih1 _ _ _ _ _ _ _ _
      | exact ih2 _ _ _ _ _ _ _ _ _ _ _ _
      | exact ih3 _ _ _ _ _ _ _ _ _ _ _ _ _ _ _ _ _ _ _
      | exact ih4 _ _
      | exact kauditlaw37_begun.mono _
      | exact kauditmill_Case_Namings.mono _ _ _
      | exact kauditref37_ErrorName.mono _ _
      | exact kauditref37_Interpret.mono _ _ _ _ _ _ _
      | exact names_Interpret.mono _ _ _ _ _ _ _
      | exact LeO.none _
      | refine LeO.ite ?_ ?_
      | refine LeO.bind ?_ (fun _ => ?_)
    · intro y0 y1
      unfold kauditlaw37_NamesInterprets.l4
      repeat' first
      | (with_reducible exact ih0 _ _ _ _ _ _ _ _ _)
      | (with_reducible exact ih1 _ _ _ _ _ _ _ _)
      | (with_reducible exact ih2 _ _ _ _ _ _ _ _ _ _ _ _)
      | (with_reducible exact ih3 _ _ _ _ _ _ _ _ _ _ _ _ _ _ _ _ _ _ _)
      | (with_reducible exact ih4 _ _)
      | (with_reducible exact kauditlaw37_begun.mono _)
      | (with_reducible exact kauditmill_Case_Namings.mono _ _ _)
      | (with_reducible exact kauditref37_ErrorName.mono _ _)
      | (with_reducible exact kauditref37_Interpret.mono _ _ _ _ _ _ _)
      | (with_reducible exact names_Interpret.mono _ _ _ _ _ _ _)
      | (with_reducible exact LeO.refl _)
      | (with_reducible exact LeO.none _)
      | (with_reducible refine LeO.ite ?_ ?_)
      | (with_reducible refine LeO.bind ?_ (fun _ => ?_))
      | exact ih0 _ _ _ _ _ _ _ _ _
      | exact ih1 _ _ _ _ _ _ _ _
      | exact ih2 _ _ _ _ _ _ _ _ _ _ _ _
      | exact ih3 _ _ _ _ _ _ _ _ _ _ _ _ _ _ _ _ _ _ _
      | exact ih4 _ _
      | exact kauditlaw37_begun.mono _
      | exact kauditmill_Case_Namings.mono _ _ _
      | exact kauditref37_ErrorName.mono _ _
      | exact kauditref37_Interpret.mono _ _ _ _ _ _ _
      | exact names_Interpret.mono _ _ _ _ _ _ _
      | exact LeO.none _
      | refine LeO.ite ?_ ?_
      | refine LeO.bind ?_ (fun _ => ?_)
theorem kauditlaw37_NamesInterprets.mono : ∀ a0 a1 a2 a3 a4 a5 a6 a7 k, LeO (kauditlaw37_NamesInterprets.f k a0 a1 a2 a3 a4 a5 a6 a7) (kauditlaw37_NamesInterprets.f (k + 1) a0 a1 a2 a3 a4 a5 a6 a7) := by
  intro a0 a1 a2 a3 a4 a5 a6 a7 k
  obtain ⟨ih0, ih1, ih2, ih3, ih4⟩ := kauditlaw37_NamesInterprets.mono_l k
  unfold kauditlaw37_NamesInterprets.f
  repeat' first
      | (with_reducible exact ih0 _ _ _ _ _ _ _ _ _)
      | (with_reducible exact ih1 _ _ _ _ _ _ _ _)
      | (with_reducible exact ih2 _ _ _ _ _ _ _ _ _ _ _ _)
      | (with_reducible exact ih3 _ _ _ _ _ _ _ _ _ _ _ _ _ _ _ _ _ _ _)
      | (with_reducible exact ih4 _ _)
      | (with_reducible exact kauditlaw37_begun.mono _)
      | (with_reducible exact kauditmill_Case_Namings.mono _ _ _)
      | (with_reducible exact kauditref37_ErrorName.mono _ _)
      | (with_reducible exact kauditref37_Interpret.mono _ _ _ _ _ _ _)
      | (with_reducible exact names_Interpret.mono _ _ _ _ _ _ _)
      | (with_reducible exact LeO.refl _)
      | (with_reducible exact LeO.none _)
      | (with_reducible refine LeO.ite ?_ ?_)
      | (with_reducible refine LeO.bind ?_ (fun _ => ?_))
      | exact ih0 _ _ _ _ _ _ _ _ _
      | exact ih1 _ _ _ _ _ _ _ _
      | exact ih2 _ _ _ _ _ _ _ _ _ _ _ _
      | exact ih3 _ _ _ _ _ _ _ _ _ _ _ _ _ _ _ _ _ _ _
      | exact ih4 _ _
      | exact kauditlaw37_begun.mono _
      | exact kauditmill_Case_Namings.mono _ _ _
      | exact kauditref37_ErrorName.mono _ _
      | exact kauditref37_Interpret.mono _ _ _ _ _ _ _
      | exact names_Interpret.mono _ _ _ _ _ _ _
      | exact LeO.none _
      | refine LeO.ite ?_ ?_
      | refine LeO.bind ?_ (fun _ => ?_)
def kauditlaw37_NamesInterprets.T17 : Bool × List (List Nat × List Nat) := (true, [([], []), ([], []), ([], []), ([0, 1, 2], [0, 1, 2]), ([], []), ([], []), ([], []), ([4, 5, 6, 3], [4, 5, 6]), ([3, 7], [3, 7]), ([8, 7], [8]), ([9], [9]), ([10, 9, 9], [9, 10]), ([9], [9]), ([12, 11, 9], [9, 12]), ([11, 13, 9], [9, 11, 13]), ([9, 14], [9, 14])])
def kauditlaw37_NamesInterprets.B17 : List Nat := [0, 0, 0, 7, 0, 0, 0, 127, 255, 511, 1023, 2047, 1023, 8191, 16383, 32767]
theorem kauditlaw37_NamesInterprets.tab17 : rtab .any (opsOf Tryd.f4 17) = kauditlaw37_NamesInterprets.T17 := by kernel_rfl
theorem kauditlaw37_NamesInterprets.bits17 : waitsOk kauditlaw37_NamesInterprets.T17.2 kauditlaw37_NamesInterprets.B17 = true := by kernel_rfl
set_option maxHeartbeats 8000000 in
set_option maxRecDepth 100000 in
theorem kauditlaw37_NamesInterprets.calls (k : Nat) (A0 : Option Addr) (c0 : Nat) (l0 : List Int) (P1_ : Nat → Prop) (A1 : Option Addr) (c1 : Nat) (l1 : List (S47)) (a2 : Int) (a3_0 : ByteArray) (a3_1 : Int) (a3_2 : Int) (a3_3 : ByteArray) (a4 : Int) (r : Bool) (w : World) (hr0 : Kd.C (Kd.int .u8) w A0 l0.length l0) (hc0 : l0.length ≤ c0) (hs1 : Kd.V k47 47 w w.heap.size (fun k_ => P1_ k_) (.slice A1 l1.length c1) l1) (hG : GL w) (h : kauditlaw37_NamesInterprets.f k l0 l1 a2 a3_0 a3_1 a3_2 a3_3 a4 = some r) :
    Calls Tryd.prog 4 #[.slice A0 l0.length c0, .slice A1 l1.length c1, .int .i64 a2, .agg #[.string a3_0, .int .i64 a3_1, .int .i64 a3_2, .string a3_3], .int .i64 a4] w fun e w' => e = .returned (.bool r) ∧ Below w.heap.size w w' := by
  have hu34 := Tryd.underlying34
  have HR0 := Aside0.mk hr0
  have HC0 := Aside0.mk hc0
  clear hr0 hc0
  have HO1 := Aside0.mk (show Kd.V k47 47 w w.heap.size (fun k_ => (P1_ k_ ∨ w.heap.size ≤ k_)) (.slice A1 l1.length c1) l1 from Kd.V_mono hs1 (fun k_ hk => .inl hk))
  have HB := Aside0.mk (Below.refl w.heap.size w)
  have HGL := Aside0.mk hG
  clear hG
  have H : ((kauditmill_New.f l0 100).bind fun bt214 => ((some (([(⟨#[117, 105, 100]⟩ : ByteArray), (⟨#[101, 117, 105, 100]⟩ : ByteArray), (⟨#[97, 117, 105, 100]⟩ : ByteArray), (⟨#[111, 117, 105, 100]⟩ : ByteArray), (⟨#[103, 105, 100]⟩ : ByteArray), (⟨#[101, 103, 105, 100]⟩ : ByteArray), (⟨#[111, 103, 105, 100]⟩ : ByteArray), (⟨#[115, 101, 115]⟩ : ByteArray), (⟨#[101, 120, 105, 116]⟩ : ByteArray), (⟨#[109, 111, 100, 101]⟩ : ByteArray), (⟨#[112, 101, 114, 109]⟩ : ByteArray), (⟨#[112, 105, 100]⟩ : ByteArray)] : List ByteArray) : List ByteArray)).bind fun y220 => (kauditlaw37_NamesInterprets.l0 k l1 a2 a4 (([(⟨a3_0, a3_1, a3_2, a3_3⟩ : S34)] : List (S34))) y220 (y220.length : Int) 0 bt214.1 bt214.2))) = some r := h
  clear h
  replace H := Option.bind_eq_some_iff.mp H
  obtain ⟨⟨t214, t215⟩, A60, H⟩ := H
  replace H : ((some (([(⟨#[117, 105, 100]⟩ : ByteArray), (⟨#[101, 117, 105, 100]⟩ : ByteArray), (⟨#[97, 117, 105, 100]⟩ : ByteArray), (⟨#[111, 117, 105, 100]⟩ : ByteArray), (⟨#[103, 105, 100]⟩ : ByteArray), (⟨#[101, 103, 105, 100]⟩ : ByteArray), (⟨#[111, 103, 105, 100]⟩ : ByteArray), (⟨#[115, 101, 115]⟩ : ByteArray), (⟨#[101, 120, 105, 116]⟩ : ByteArray), (⟨#[109, 111, 100, 101]⟩ : ByteArray), (⟨#[112, 101, 114, 109]⟩ : ByteArray), (⟨#[112, 105, 100]⟩ : ByteArray)] : List ByteArray) : List ByteArray)).bind fun y220 => (kauditlaw37_NamesInterprets.l0 k l1 a2 a4 (([(⟨a3_0, a3_1, a3_2, a3_3⟩ : S34)] : List (S34))) y220 (y220.length : Int) 0 t214 t215)) = some r := H
  have A6 := Aside0.mk A60
  clear A60
  obtain ⟨y217, hy217⟩ : ∃ y_ : List (S34), y_ = (([(⟨a3_0, a3_1, a3_2, a3_3⟩ : S34)] : List (S34))) := ⟨_, rfl⟩
  replace H : ((some (([(⟨#[117, 105, 100]⟩ : ByteArray), (⟨#[101, 117, 105, 100]⟩ : ByteArray), (⟨#[97, 117, 105, 100]⟩ : ByteArray), (⟨#[111, 117, 105, 100]⟩ : ByteArray), (⟨#[103, 105, 100]⟩ : ByteArray), (⟨#[101, 103, 105, 100]⟩ : ByteArray), (⟨#[111, 103, 105, 100]⟩ : ByteArray), (⟨#[115, 101, 115]⟩ : ByteArray), (⟨#[101, 120, 105, 116]⟩ : ByteArray), (⟨#[109, 111, 100, 101]⟩ : ByteArray), (⟨#[112, 101, 114, 109]⟩ : ByteArray), (⟨#[112, 105, 100]⟩ : ByteArray)] : List ByteArray) : List ByteArray)).bind fun y220 => (kauditlaw37_NamesInterprets.l0 k l1 a2 a4 y217 y220 (y220.length : Int) 0 t214 t215)) = some r := by first | (rw [hy217]; with_reducible exact H) | (have H2_ := (Option.bind_some _ _).symm.trans H; rw [hy217]; with_reducible exact H2_) | (have H2_ := (Option.bind_some _ _).symm.trans H; with_reducible exact H2_) | with_reducible exact H | (rw [hy217]; exact H) | exact H
  have Ny217 := Aside0.mk hy217
  clear hy217
  obtain ⟨y220, hy220⟩ : ∃ y_ : List ByteArray, y_ = (([(⟨#[117, 105, 100]⟩ : ByteArray), (⟨#[101, 117, 105, 100]⟩ : ByteArray), (⟨#[97, 117, 105, 100]⟩ : ByteArray), (⟨#[111, 117, 105, 100]⟩ : ByteArray), (⟨#[103, 105, 100]⟩ : ByteArray), (⟨#[101, 103, 105, 100]⟩ : ByteArray), (⟨#[111, 103, 105, 100]⟩ : ByteArray), (⟨#[115, 101, 115]⟩ : ByteArray), (⟨#[101, 120, 105, 116]⟩ : ByteArray), (⟨#[109, 111, 100, 101]⟩ : ByteArray), (⟨#[112, 101, 114, 109]⟩ : ByteArray), (⟨#[112, 105, 100]⟩ : ByteArray)] : List ByteArray)) := ⟨_, rfl⟩
  replace H : (kauditlaw37_NamesInterprets.l0 k l1 a2 a4 y217 y220 (y220.length : Int) 0 t214 t215) = some r := by first | (rw [hy220]; with_reducible exact H) | (have H2_ := (Option.bind_some _ _).symm.trans H; rw [hy220]; with_reducible exact H2_) | (have H2_ := (Option.bind_some _ _).symm.trans H; with_reducible exact H2_) | with_reducible exact H | (rw [hy220]; exact H) | exact H
  have Ny220 := Aside0.mk hy220
  clear hy220
  have H' := Aside0.mk H
  clear H
  go_enter Tryd.func4, Tryd.ntmps4
  go_wp2_with (first | ((with_reducible refine gate_dst (N := 8) rfl ?_); refine box_event ?hg (N := 8) ?hd (cs := #[.string a3_0, .int .i64 a3_1, .int .i64 a3_2, .string a3_3]) (t := 34) ?hr ?_; (case hd => rfl); (case hg => rfl); (case hr => first | (go_simp; done) | (go_simp; rfl)); intro gb213 hg w7 hbox hb; have n0_ := Aside0.mk (Kd.V_below (Kd.V_elderB (by (with_reducible repeat (first | apply Kd.V_alloc | apply Kd.V_drewN | apply Kd.V_drew)); exact HO1.out) gb213 (Nat.le_of_eq hg.symm)) hb); have n1_ := Aside0.mk (below_step (by repeat (first | (with_reducible first | exact HB.out | apply below_alloc | apply pw_below_drewN | apply below_drew1) | exact HB.out)) hb); have n2_ := Aside0.mk (hbox); have n3_ := Aside0.mk ((by rw [hg]; exact (below_size (by repeat (first | (with_reducible first | exact HB.out | apply below_alloc | apply pw_below_drewN | apply below_drew1) | exact HB.out))) : w.heap.size ≤ gb213)); have n4_ := Aside0.mk ((by rw [hg]; exact (below_size (by repeat (first | (with_reducible first | exact HB.out | apply below_alloc | apply pw_below_drewN | apply below_drew1) | exact HB.out))) : w.heap.size ≤ gb213)); clear HO1; clear HB; have HO1 := n0_; have HB := n1_; have BK213 := n2_; have GW213 := n3_; have GE213 := n4_; clear n0_ n1_ n2_ n3_ n4_; clear hb hbox hg) | ((with_reducible refine gate_callee (f := 13) rfl ?_); refine goesL_ (some 23) rfl rfl Tryd.func13 (by kernel_rfl) rfl #[.slice A0 l0.length c0, .int .i64 100] rfl (by (try simp only [List.map_toArray, List.map_cons, List.map_nil]); first | done | rfl | (simp only [List.length_drop, List.length_take]; rfl)) ?_; (with_reducible refine (kauditmill_New.calls _ _ l0 100 t214 t215 w _ ?side1 ?side2 ?side3 A6.out).mono ?_); (case side1 => repeat (first | (with_reducible first | exact HB.out | apply below_alloc | apply pw_below_drewN | apply below_drew1 | refine below_set ?_ GE213.out) | exact HB.out)); (case side2 => exact HR0.out); (case side3 => exact HC0.out); rintro e w8 ⟨g216, rfl, hi, hb, hb2⟩; refine ⟨_, rfl, ?_⟩; have n0_ := Aside0.mk (Kd.V_mono (ok' := fun k_ => (((((P1_ k_ ∨ w.heap.size ≤ k_)) ∧ k_ ≠ gb213)) ∧ k_ ≠ g216)) (Kd.V_below (Kd.V_elderB (Kd.V_elderB (hs1) gb213 GE213.out) g216 (IsS91.ge hi)) hb) (fun _ h_ => ⟨⟨.inl h_.1.1, h_.1.2⟩, h_.2⟩)); have n1_ := Aside0.mk (blk_below (g := gb213) (o := .cells #[.string a3_0, .int .i64 a3_1, .int .i64 a3_2, .string a3_3] 34 (0, 0)) (by (with_reducible repeat (first | refine blk_drewN ?_ _ | refine blk_drew ?_ | refine blk_alloc ?_ _)); exact BK213.out) hb2); have n2_ := Aside0.mk (hb); have n3_ := Aside0.mk (hi); have n4_ := Aside0.mk (IsS91.ne_blk hi (blk_below (g := gb213) (o := .cells #[.string a3_0, .int .i64 a3_1, .int .i64 a3_2, .string a3_3] 34 (0, 0)) (by (with_reducible repeat (first | refine blk_drewN ?_ _ | refine blk_drew ?_ | refine blk_alloc ?_ _)); exact BK213.out) hb2) (by decide)); have n5_ := Aside0.mk (Ne.symm (IsS91.ne_blk hi (blk_below (g := gb213) (o := .cells #[.string a3_0, .int .i64 a3_1, .int .i64 a3_2, .string a3_3] 34 (0, 0)) (by (with_reducible repeat (first | refine blk_drewN ?_ _ | refine blk_drew ?_ | refine blk_alloc ?_ _)); exact BK213.out) hb2) (by decide))); clear HO1; clear BK213; clear HB; have HO1 := n0_; have BK213 := n1_; have HB := n2_; have HI216 := n3_; have NB216_213 := n4_; have NB213_216 := n5_; clear n0_ n1_ n2_ n3_ n4_ n5_; (try clear hb); (try clear hb2); (try clear hk); (try clear hi); have hnb9 := NB213_216.out; have hnc9 := NB216_213.out; have hcz10_0 : w8.cell? ⟨gb213, 0, none⟩ = some (.string a3_0) := (blk_cell BK213.out 0).trans rfl; have hcz10_1 : w8.cell? ⟨gb213, 1, none⟩ = some (.int .i64 a3_1) := (blk_cell BK213.out 1).trans rfl; have hcz10_2 : w8.cell? ⟨gb213, 2, none⟩ = some (.int .i64 a3_2) := (blk_cell BK213.out 2).trans rfl; have hcz10_3 : w8.cell? ⟨gb213, 3, none⟩ = some (.string a3_3) := (blk_cell BK213.out 3).trans rfl; have hfz10_0 := blk_frozen BK213.out 0; have hfz10_1 := blk_frozen BK213.out 1; have hfz10_2 := blk_frozen BK213.out 2; have hfz10_3 := blk_frozen BK213.out 3) | ((with_reducible refine gate_dst (N := 25) rfl ?_); refine Kd.R_lit k34 _ 34 ?hg (N := 25) ?hd (xs := ([(⟨a3_0, a3_1, a3_2, a3_3⟩ : S34)] : List (S34))) (inner := [.string a3_0, .int .i64 a3_1, .int .i64 a3_2, .string a3_3]) (ok := fun _ => True) (okp := fun _ => True) ?hr ?hp (fun _ hk => hk) trivial (Below.refl _ _) (Nat.le_refl _) (by simp) ?_; (case hd => rfl); (case hg => rfl); (case hr => first | (go_simp; done) | (go_simp; rfl)); (case hp => exact (Reps.c4 (show Kd.M k34 _ _ _ (⟨a3_0, a3_1, a3_2, a3_3⟩ : S34) [.string a3_0, .int .i64 a3_1, .int .i64 a3_2, .string a3_3] from (k34_mkM _ _ _ (⟨a3_0, a3_1, a3_2, a3_3⟩ : S34) )) (Reps.none _ _))); intro v218 w11 ho12 hb hg_ hnew_; clear hg_ hnew_; (first | rw [← Ny217.out] at ho12 | (simp only [Int.reduceToNat] at ho12; rw [← Ny217.out] at ho12)); have n0_ := Aside0.mk (Kd.V_elder' (by (with_reducible repeat (first | apply Kd.V_alloc | apply Kd.V_drewN | apply Kd.V_drew)); exact HO1.out) (Kd.R_base ho12) hb); have n1_ := Aside0.mk (Kd.R_lower (Kd.R_newB (Kd.R_newM (M := fun k_ => (w.heap.size ≤ k_)) ho12 (below_size (by repeat (first | (with_reducible first | exact HB.out | apply below_alloc | apply pw_below_drewN | apply below_drew1 | refine below_set ?_ (IsS91.ge HI216.out) | refine below_set ?_ GE213.out) | exact HB.out))) (fun k_ h_ => h_)) (g := gb213) (o := .cells #[.string a3_0, .int .i64 a3_1, .int .i64 a3_2, .string a3_3] 34 (0, 0)) (by (with_reducible repeat (first | refine blk_drewN ?_ _ | refine blk_drew ?_ | refine blk_alloc ?_ _)); exact BK213.out)) (below_size (by repeat (first | (with_reducible first | exact HB.out | apply below_alloc | apply pw_below_drewN | apply below_drew1 | refine below_set ?_ (IsS91.ge HI216.out) | refine below_set ?_ GE213.out) | exact HB.out)))); have n2_ := Aside0.mk (blk_below (g := gb213) (o := .cells #[.string a3_0, .int .i64 a3_1, .int .i64 a3_2, .string a3_3] 34 (0, 0)) (by (with_reducible repeat (first | refine blk_drewN ?_ _ | refine blk_drew ?_ | refine blk_alloc ?_ _)); exact BK213.out) hb); have n3_ := Aside0.mk (IsS91.below (by repeat (first | (with_reducible first | exact HI216.out | apply IsS91.alloc | apply IsS91.drewN | apply IsS91.drew | apply IsS91.set_1 | refine IsS91.far ?_ NB216_213.out _) | exact HI216.out)) hb); have n4_ := Aside0.mk (below_step (by repeat (first | (with_reducible first | exact HB.out | apply below_alloc | apply pw_below_drewN | apply below_drew1 | refine below_set ?_ (IsS91.ge HI216.out) | refine below_set ?_ GE213.out) | exact HB.out)) hb); clear HO1; clear BK213; clear HI216; clear HB; have HO1 := n0_; have HO219 := n1_; have BK213 := n2_; have HI216 := n3_; have HB := n4_; clear n0_ n1_ n2_ n3_ n4_; clear hb ho12) | ((with_reducible refine gate_dst (N := 26) rfl ?_); refine Kd.R_lit Kd.string _ 9 ?hg (N := 26) ?hd (xs := ([(⟨#[117, 105, 100]⟩ : ByteArray), (⟨#[101, 117, 105, 100]⟩ : ByteArray), (⟨#[97, 117, 105, 100]⟩ : ByteArray), (⟨#[111, 117, 105, 100]⟩ : ByteArray), (⟨#[103, 105, 100]⟩ : ByteArray), (⟨#[101, 103, 105, 100]⟩ : ByteArray), (⟨#[111, 103, 105, 100]⟩ : ByteArray), (⟨#[115, 101, 115]⟩ : ByteArray), (⟨#[101, 120, 105, 116]⟩ : ByteArray), (⟨#[109, 111, 100, 101]⟩ : ByteArray), (⟨#[112, 101, 114, 109]⟩ : ByteArray), (⟨#[112, 105, 100]⟩ : ByteArray)] : List ByteArray)) (inner := [.string (⟨#[117, 105, 100]⟩ : ByteArray), .string (⟨#[101, 117, 105, 100]⟩ : ByteArray), .string (⟨#[97, 117, 105, 100]⟩ : ByteArray), .string (⟨#[111, 117, 105, 100]⟩ : ByteArray), .string (⟨#[103, 105, 100]⟩ : ByteArray), .string (⟨#[101, 103, 105, 100]⟩ : ByteArray), .string (⟨#[111, 103, 105, 100]⟩ : ByteArray), .string (⟨#[115, 101, 115]⟩ : ByteArray), .string (⟨#[101, 120, 105, 116]⟩ : ByteArray), .string (⟨#[109, 111, 100, 101]⟩ : ByteArray), .string (⟨#[112, 101, 114, 109]⟩ : ByteArray), .string (⟨#[112, 105, 100]⟩ : ByteArray)]) (ok := fun _ => True) (okp := fun _ => True) ?hr ?hp (fun _ hk => hk) trivial (Below.refl _ _) (Nat.le_refl _) (by simp) ?_; (case hd => rfl); (case hg => rfl); (case hr => first | (go_simp; done) | (go_simp; rfl)); (case hp => exact (Reps.one (show Kd.M Kd.string _ _ _ (⟨#[117, 105, 100]⟩ : ByteArray) [.string (⟨#[117, 105, 100]⟩ : ByteArray)] from rfl) (Reps.one (show Kd.M Kd.string _ _ _ (⟨#[101, 117, 105, 100]⟩ : ByteArray) [.string (⟨#[101, 117, 105, 100]⟩ : ByteArray)] from rfl) (Reps.one (show Kd.M Kd.string _ _ _ (⟨#[97, 117, 105, 100]⟩ : ByteArray) [.string (⟨#[97, 117, 105, 100]⟩ : ByteArray)] from rfl) (Reps.one (show Kd.M Kd.string _ _ _ (⟨#[111, 117, 105, 100]⟩ : ByteArray) [.string (⟨#[111, 117, 105, 100]⟩ : ByteArray)] from rfl) (Reps.one (show Kd.M Kd.string _ _ _ (⟨#[103, 105, 100]⟩ : ByteArray) [.string (⟨#[103, 105, 100]⟩ : ByteArray)] from rfl) (Reps.one (show Kd.M Kd.string _ _ _ (⟨#[101, 103, 105, 100]⟩ : ByteArray) [.string (⟨#[101, 103, 105, 100]⟩ : ByteArray)] from rfl) (Reps.one (show Kd.M Kd.string _ _ _ (⟨#[111, 103, 105, 100]⟩ : ByteArray) [.string (⟨#[111, 103, 105, 100]⟩ : ByteArray)] from rfl) (Reps.one (show Kd.M Kd.string _ _ _ (⟨#[115, 101, 115]⟩ : ByteArray) [.string (⟨#[115, 101, 115]⟩ : ByteArray)] from rfl) (Reps.one (show Kd.M Kd.string _ _ _ (⟨#[101, 120, 105, 116]⟩ : ByteArray) [.string (⟨#[101, 120, 105, 116]⟩ : ByteArray)] from rfl) (Reps.one (show Kd.M Kd.string _ _ _ (⟨#[109, 111, 100, 101]⟩ : ByteArray) [.string (⟨#[109, 111, 100, 101]⟩ : ByteArray)] from rfl) (Reps.one (show Kd.M Kd.string _ _ _ (⟨#[112, 101, 114, 109]⟩ : ByteArray) [.string (⟨#[112, 101, 114, 109]⟩ : ByteArray)] from rfl) (Reps.one (show Kd.M Kd.string _ _ _ (⟨#[112, 105, 100]⟩ : ByteArray) [.string (⟨#[112, 105, 100]⟩ : ByteArray)] from rfl) (Reps.none _ _)))))))))))))); intro v221 w13 ho14 hb hg_ hnew_; clear hg_ hnew_; (first | rw [← Ny220.out] at ho14 | (simp only [Int.reduceToNat] at ho14; rw [← Ny220.out] at ho14)); have n0_ := Aside0.mk (Kd.V_elder' (by (with_reducible repeat (first | apply Kd.V_alloc | apply Kd.V_drewN | apply Kd.V_drew)); exact HO1.out) (Kd.R_base ho14) hb); have n1_ := Aside0.mk (Kd.R_below (by (with_reducible repeat (first | apply Kd.R_alloc | apply Kd.R_drewN | apply Kd.R_drew)); exact HO219.out) hb); have n2_ := Aside0.mk (Kd.R_lower (Kd.R_newM (M := fun k_ => (w.heap.size ≤ k_)) ho14 (below_size (by repeat (first | (with_reducible first | exact HB.out | apply below_alloc | apply pw_below_drewN | apply below_drew1 | refine below_set ?_ (IsS91.ge HI216.out) | refine below_set ?_ GE213.out) | exact HB.out))) (fun k_ h_ => h_)) (below_size (by repeat (first | (with_reducible first | exact HB.out | apply below_alloc | apply pw_below_drewN | apply below_drew1 | refine below_set ?_ (IsS91.ge HI216.out) | refine below_set ?_ GE213.out) | exact HB.out)))); have n3_ := Aside0.mk (blk_below (g := gb213) (o := .cells #[.string a3_0, .int .i64 a3_1, .int .i64 a3_2, .string a3_3] 34 (0, 0)) (by (with_reducible repeat (first | refine blk_drewN ?_ _ | refine blk_drew ?_ | refine blk_alloc ?_ _)); exact BK213.out) hb); have n4_ := Aside0.mk (IsS91.below (by repeat (first | (with_reducible first | exact HI216.out | apply IsS91.alloc | apply IsS91.drewN | apply IsS91.drew | apply IsS91.set_1 | refine IsS91.far ?_ NB216_213.out _) | exact HI216.out)) hb); have n5_ := Aside0.mk (below_step (by repeat (first | (with_reducible first | exact HB.out | apply below_alloc | apply pw_below_drewN | apply below_drew1 | refine below_set ?_ (IsS91.ge HI216.out) | refine below_set ?_ GE213.out) | exact HB.out)) hb); clear HO1; clear HO219; clear BK213; clear HI216; clear HB; have HO1 := n0_; have HO219 := n1_; have HO222 := n2_; have BK213 := n3_; have HI216 := n4_; have HB := n5_; clear n0_ n1_ n2_ n3_ n4_ n5_; clear hb ho14; obtain ⟨Ao15, co15, eo15⟩ := Kd.R_slice HO222.out; subst eo15))
  go_loopg [12, 28] k (fun kq v12 v28 w' => ∃ (x12_1 : List (S34)) (x28_1 : Int) (x217001_1 : Int), v28 = .int .i64 x28_1 ∧ Aside0 (kauditlaw37_NamesInterprets.l0 kq l1 a2 a4 x12_1 y220 (y220.length : Int) x28_1 t214 x217001_1 = some r) ∧ Aside0 (kq ≤ k) ∧ Aside0 (Kd.V k47 47 w' w.heap.size (fun k_ => (P1_ k_ ∨ w.heap.size ≤ k_) ∧ some k_ ≠ (v12 : Value).ownBlock ∧ some k_ ≠ ((.slice Ao15 y220.length co15) : Value).ownBlock ∧ k_ ≠ gb213 ∧ k_ ≠ g216) (.slice A1 l1.length c1) l1) ∧ Aside0 (Kd.R k34 34 w' w.heap.size (fun k_ => (w.heap.size ≤ k_) ∧ k_ ≠ gb213) v12 x12_1) ∧ Aside0 (Kd.R Kd.string 9 w' w.heap.size (fun k_ => (w.heap.size ≤ k_)) (.slice Ao15 y220.length co15) y220) ∧ Aside0 (w'.heap[gb213]? = some (.cells #[.string a3_0, .int .i64 a3_1, .int .i64 a3_2, .string a3_3] 34 (0, 0))) ∧ Aside0 (IsS91 w w' g216 t214 x217001_1) ∧ Aside0 (Below w.heap.size w w'))
  case atStart => exact ⟨(y217), (0), (t215), (by first | rfl | (simp; done) | (simp [*]; done)), H', ⟨Nat.le_refl _⟩, ⟨by (with_reducible repeat (first | apply Kd.V_alloc | apply Kd.V_drewN | apply Kd.V_drew)); exact Kd.V_mono HO1.out (fun _ hk => ⟨hk.1.1.1.1, ⟨hk.1.2, ⟨hk.2, ⟨hk.1.1.1.2, hk.1.1.2⟩⟩⟩⟩)⟩, ⟨by (with_reducible repeat (first | apply Kd.R_alloc | apply Kd.R_drewN | apply Kd.R_drew)); exact Kd.R_mono HO219.out (fun _ hk => ⟨hk.1.1, hk.2⟩)⟩, ⟨by (with_reducible repeat (first | apply Kd.R_alloc | apply Kd.R_drewN | apply Kd.R_drew)); exact Kd.R_mono HO222.out (fun _ hk => hk.1)⟩, ⟨by (with_reducible repeat (first | refine blk_drewN ?_ _ | refine blk_drew ?_ | refine blk_alloc ?_ _)); exact BK213.out⟩, ⟨by repeat (first | (with_reducible first | exact HI216.out | apply IsS91.alloc | apply IsS91.drewN | apply IsS91.drew | apply IsS91.set_1 | refine IsS91.far ?_ NB216_213.out _) | exact HI216.out)⟩, ⟨by repeat (first | (with_reducible first | exact HB.out | apply below_alloc | apply pw_below_drewN | apply below_drew1 | refine below_set ?_ (IsS91.ge HI216.out) | refine below_set ?_ GE213.out) | exact HB.out)⟩⟩
  case round =>
    clear H'
    try clear c1
    try clear p2
    try clear c4
    try clear c9
    try clear c13
    try clear hcz10_0
    try clear hcz10_1
    try clear hcz10_2
    try clear hcz10_3
    try clear hfz10_0
    try clear hfz10_1
    try clear hfz10_2
    try clear hfz10_3
    obtain ⟨x12_1, x28_1, x217001_1, rfl, HA, HK1, HO_1, HO_12, HO_26, BK213, HI216, HB⟩ := hrel
    cases gk with
    | zero => exact absurd HA.out (by simp [kauditlaw37_NamesInterprets.l0])
    | succ k1 =>
      have H := HA.out
      clear HA
      simp only [kauditlaw37_NamesInterprets.l0] at H
      by_cases c16 : x28_1 < (y220.length : Int)
      · rw [if_pos c16] at H
        have c16b0 : decide (x28_1 < (y220.length : Int)) = true := decide_eq_true c16
        clear c16
        by_cases c17 : 0 ≤ x28_1
        · rw [if_pos c17] at H
          have c17b0 : decide (0 ≤ x28_1) = true := decide_eq_true c17
          clear c17
          by_cases c18 : x28_1 < (y220.length : Int)
          · rw [if_pos c18] at H
            have c18b0 : decide (x28_1 < (y220.length : Int)) = true := decide_eq_true c18
            clear c18
            replace H := Option.bind_eq_some_iff.mp H
            obtain ⟨⟨t224, t225, t226, t227⟩, A190, H⟩ := H
            replace H : ((kauditmill_Case_Pick.f t214 x217001_1 (([0, 7, 8, 4294967295, (-2), (-13), (-111), 420, 15, 16, (-9223372036854775808)] : List Int))).bind fun bt231 => ((kauditmill_Num.f (rdOf ByteArray.empty y220 x28_1) bt231.1).bind fun bt233 => ((kauditmill_Str.f (rdOf ByteArray.empty y220 x28_1) (⟨#[55]⟩ : ByteArray)).bind fun bt237 => ((some (([(⟨t224, t225, t226, t227⟩ : S34), (⟨bt233.1, bt233.2.1, bt233.2.2.1, bt233.2.2.2⟩ : S34), (⟨bt237.1, bt237.2.1, bt237.2.2.1, bt237.2.2.2⟩ : S34)] : List (S34)) : List (S34))).bind fun y241 => (if x12_1.length + y241.length < 2932031007402 then (kauditlaw37_NamesInterprets.l0 k1 l1 a2 a4 (x12_1 ++ y241) y220 (y220.length : Int) (wrap64 (x28_1 + 1)) t214 bt231.2) else (none)))))) = some r := H
            have A19 := Aside0.mk A190
            clear A190
            obtain ⟨y228, hy228⟩ : ∃ y_ : List Int, y_ = (([0, 7, 8, 4294967295, (-2), (-13), (-111), 420, 15, 16, (-9223372036854775808)] : List Int)) := ⟨_, rfl⟩
            replace H : ((kauditmill_Case_Pick.f t214 x217001_1 y228).bind fun bt231 => ((kauditmill_Num.f (rdOf ByteArray.empty y220 x28_1) bt231.1).bind fun bt233 => ((kauditmill_Str.f (rdOf ByteArray.empty y220 x28_1) (⟨#[55]⟩ : ByteArray)).bind fun bt237 => ((some (([(⟨t224, t225, t226, t227⟩ : S34), (⟨bt233.1, bt233.2.1, bt233.2.2.1, bt233.2.2.2⟩ : S34), (⟨bt237.1, bt237.2.1, bt237.2.2.1, bt237.2.2.2⟩ : S34)] : List (S34)) : List (S34))).bind fun y241 => (if x12_1.length + y241.length < 2932031007402 then (kauditlaw37_NamesInterprets.l0 k1 l1 a2 a4 (x12_1 ++ y241) y220 (y220.length : Int) (wrap64 (x28_1 + 1)) t214 bt231.2) else (none)))))) = some r := by first | (rw [hy228]; with_reducible exact H) | (have H2_ := (Option.bind_some _ _).symm.trans H; rw [hy228]; with_reducible exact H2_) | (have H2_ := (Option.bind_some _ _).symm.trans H; with_reducible exact H2_) | with_reducible exact H | (rw [hy228]; exact H) | exact H
            have Ny228 := Aside0.mk hy228
            clear hy228
            replace H := Option.bind_eq_some_iff.mp H
            obtain ⟨⟨t231, t232⟩, A200, H⟩ := H
            replace H : ((kauditmill_Num.f (rdOf ByteArray.empty y220 x28_1) t231).bind fun bt233 => ((kauditmill_Str.f (rdOf ByteArray.empty y220 x28_1) (⟨#[55]⟩ : ByteArray)).bind fun bt237 => ((some (([(⟨t224, t225, t226, t227⟩ : S34), (⟨bt233.1, bt233.2.1, bt233.2.2.1, bt233.2.2.2⟩ : S34), (⟨bt237.1, bt237.2.1, bt237.2.2.1, bt237.2.2.2⟩ : S34)] : List (S34)) : List (S34))).bind fun y241 => (if x12_1.length + y241.length < 2932031007402 then (kauditlaw37_NamesInterprets.l0 k1 l1 a2 a4 (x12_1 ++ y241) y220 (y220.length : Int) (wrap64 (x28_1 + 1)) t214 t232) else (none))))) = some r := H
            have A20 := Aside0.mk A200
            clear A200
            replace H := Option.bind_eq_some_iff.mp H
            obtain ⟨⟨t233, t234, t235, t236⟩, A210, H⟩ := H
            replace H : ((kauditmill_Str.f (rdOf ByteArray.empty y220 x28_1) (⟨#[55]⟩ : ByteArray)).bind fun bt237 => ((some (([(⟨t224, t225, t226, t227⟩ : S34), (⟨t233, t234, t235, t236⟩ : S34), (⟨bt237.1, bt237.2.1, bt237.2.2.1, bt237.2.2.2⟩ : S34)] : List (S34)) : List (S34))).bind fun y241 => (if x12_1.length + y241.length < 2932031007402 then (kauditlaw37_NamesInterprets.l0 k1 l1 a2 a4 (x12_1 ++ y241) y220 (y220.length : Int) (wrap64 (x28_1 + 1)) t214 t232) else (none)))) = some r := H
            have A21 := Aside0.mk A210
            clear A210
            replace H := Option.bind_eq_some_iff.mp H
            obtain ⟨⟨t237, t238, t239, t240⟩, A220, H⟩ := H
            replace H : ((some (([(⟨t224, t225, t226, t227⟩ : S34), (⟨t233, t234, t235, t236⟩ : S34), (⟨t237, t238, t239, t240⟩ : S34)] : List (S34)) : List (S34))).bind fun y241 => (if x12_1.length + y241.length < 2932031007402 then (kauditlaw37_NamesInterprets.l0 k1 l1 a2 a4 (x12_1 ++ y241) y220 (y220.length : Int) (wrap64 (x28_1 + 1)) t214 t232) else (none))) = some r := H
            have A22 := Aside0.mk A220
            clear A220
            obtain ⟨y241, hy241⟩ : ∃ y_ : List (S34), y_ = (([(⟨t224, t225, t226, t227⟩ : S34), (⟨t233, t234, t235, t236⟩ : S34), (⟨t237, t238, t239, t240⟩ : S34)] : List (S34))) := ⟨_, rfl⟩
            replace H : (if x12_1.length + y241.length < 2932031007402 then (kauditlaw37_NamesInterprets.l0 k1 l1 a2 a4 (x12_1 ++ y241) y220 (y220.length : Int) (wrap64 (x28_1 + 1)) t214 t232) else (none)) = some r := by first | (rw [hy241]; with_reducible exact H) | (have H2_ := (Option.bind_some _ _).symm.trans H; rw [hy241]; with_reducible exact H2_) | (have H2_ := (Option.bind_some _ _).symm.trans H; with_reducible exact H2_) | with_reducible exact H | (rw [hy241]; exact H) | exact H
            have Ny241 := Aside0.mk hy241
            clear hy241
            by_cases c23 : x12_1.length + y241.length < 2932031007402
            · rw [if_pos c23] at H
              have LMc23 := Aside0.mk c23
              clear c23
              obtain ⟨y244, hy244⟩ : ∃ y_ : List (S34), y_ = (x12_1 ++ y241) := ⟨_, rfl⟩
              replace H : (kauditlaw37_NamesInterprets.l0 k1 l1 a2 a4 y244 y220 (y220.length : Int) (wrap64 (x28_1 + 1)) t214 t232) = some r := by first | (rw [hy244]; with_reducible exact H) | (have H2_ := (Option.bind_some _ _).symm.trans H; rw [hy244]; with_reducible exact H2_) | (have H2_ := (Option.bind_some _ _).symm.trans H; with_reducible exact H2_) | with_reducible exact H | (rw [hy244]; exact H) | exact H
              have Ny244 := Aside0.mk hy244
              clear hy244
              have H' := Aside0.mk H
              clear H
              have p223 : 0 ≤ (x28_1 : Int) := of_decide_eq_true (by first | (with_reducible assumption) | assumption)
              have q223 : x28_1 < (y220.length : Int) := of_decide_eq_true (by first | (with_reducible assumption) | assumption)
              obtain ⟨ad223, e223, hx223_0⟩ := Kd.at_string (Kd.R_reads' HO_26.out).2.2 x28_1 p223 q223
              cases e223
              replace p223 := eq_true p223
              replace q223 := eq_true q223
              go_wp2_with (first | ((with_reducible refine gate_callee (f := 19) rfl ?_); refine goesL_ (some 35) rfl rfl Tryd.func19 (by kernel_rfl) rfl #[.string (rdOf ByteArray.empty y220 x28_1), .int .i64 a4] rfl (by (try simp only [List.map_toArray, List.map_cons, List.map_nil]); first | done | rfl | (simp only [List.length_drop, List.length_take]; rfl)) ?_; (with_reducible refine (kauditmill_Num.calls (rdOf ByteArray.empty y220 x28_1) a4 t224 t225 t226 t227 _ A19.out).mono ?_); rintro e w24 ⟨rfl, hb⟩; refine ⟨_, rfl, ?_⟩; have n0_ := Aside0.mk (Kd.V_below (by (with_reducible repeat (first | apply Kd.V_alloc | apply Kd.V_drewN | apply Kd.V_drew)); exact HO_1.out) hb); have n1_ := Aside0.mk (Kd.R_below (by (with_reducible repeat (first | apply Kd.R_alloc | apply Kd.R_drewN | apply Kd.R_drew)); exact HO_12.out) hb); have n2_ := Aside0.mk (Kd.R_below (by (with_reducible repeat (first | apply Kd.R_alloc | apply Kd.R_drewN | apply Kd.R_drew)); exact HO_26.out) hb); have n3_ := Aside0.mk (blk_below (g := gb213) (o := .cells #[.string a3_0, .int .i64 a3_1, .int .i64 a3_2, .string a3_3] 34 (0, 0)) (by (with_reducible repeat (first | refine blk_drewN ?_ _ | refine blk_drew ?_ | refine blk_alloc ?_ _)); exact BK213.out) hb); have n4_ := Aside0.mk (IsS91.below (by repeat (first | (with_reducible first | exact HI216.out | apply IsS91.alloc | apply IsS91.drewN | apply IsS91.drew | apply IsS91.set_1 | refine IsS91.far ?_ NB216_213.out _) | exact HI216.out)) hb); have n5_ := Aside0.mk (below_step (by repeat (first | (with_reducible first | exact HB.out | apply below_alloc | apply pw_below_drewN | apply below_drew1 | refine below_set ?_ (IsS91.ge HI216.out) | refine below_set ?_ GE213.out) | exact HB.out)) hb); clear HO_1; clear HO_12; clear HO_26; clear BK213; clear HI216; clear HB; have HO_1 := n0_; have HO_12 := n1_; have HO_26 := n2_; have BK213 := n3_; have HI216 := n4_; have HB := n5_; clear n0_ n1_ n2_ n3_ n4_ n5_; (try clear hb); (try clear hb2); (try clear hk); (try clear hi)) | ((with_reducible refine gate_dst (N := 38) rfl ?_); refine Kd.R_lit (Kd.int .i64) _ 3 ?hg (N := 38) ?hd (xs := ([0, 7, 8, 4294967295, (-2), (-13), (-111), 420, 15, 16, (-9223372036854775808)] : List Int)) (inner := [.int .i64 0, .int .i64 7, .int .i64 8, .int .i64 4294967295, .int .i64 (-2), .int .i64 (-13), .int .i64 (-111), .int .i64 420, .int .i64 15, .int .i64 16, .int .i64 (-9223372036854775808)]) (ok := fun _ => True) (okp := fun _ => True) ?hr ?hp (fun _ hk => hk) trivial (Below.refl _ _) (Nat.le_refl _) (by simp) ?_; (case hd => rfl); (case hg => rfl); (case hr => first | (go_simp; done) | (go_simp; rfl)); (case hp => exact (Reps.one (show Kd.M (Kd.int .i64) _ _ _ 0 [.int .i64 0] from rfl) (Reps.one (show Kd.M (Kd.int .i64) _ _ _ 7 [.int .i64 7] from rfl) (Reps.one (show Kd.M (Kd.int .i64) _ _ _ 8 [.int .i64 8] from rfl) (Reps.one (show Kd.M (Kd.int .i64) _ _ _ 4294967295 [.int .i64 4294967295] from rfl) (Reps.one (show Kd.M (Kd.int .i64) _ _ _ (-2) [.int .i64 (-2)] from rfl) (Reps.one (show Kd.M (Kd.int .i64) _ _ _ (-13) [.int .i64 (-13)] from rfl) (Reps.one (show Kd.M (Kd.int .i64) _ _ _ (-111) [.int .i64 (-111)] from rfl) (Reps.one (show Kd.M (Kd.int .i64) _ _ _ 420 [.int .i64 420] from rfl) (Reps.one (show Kd.M (Kd.int .i64) _ _ _ 15 [.int .i64 15] from rfl) (Reps.one (show Kd.M (Kd.int .i64) _ _ _ 16 [.int .i64 16] from rfl) (Reps.one (show Kd.M (Kd.int .i64) _ _ _ (-9223372036854775808) [.int .i64 (-9223372036854775808)] from rfl) (Reps.none _ _))))))))))))); intro v229 w25 ho26 hb hg_ hnew_; clear hg_ hnew_; (first | rw [← Ny228.out] at ho26 | (simp only [Int.reduceToNat] at ho26; rw [← Ny228.out] at ho26)); have n0_ := Aside0.mk (Kd.V_elder' (by (with_reducible repeat (first | apply Kd.V_alloc | apply Kd.V_drewN | apply Kd.V_drew)); exact HO_1.out) (Kd.R_base ho26) hb); have n1_ := Aside0.mk (Kd.R_below (by (with_reducible repeat (first | apply Kd.R_alloc | apply Kd.R_drewN | apply Kd.R_drew)); exact HO_12.out) hb); have n2_ := Aside0.mk (Kd.R_below (by (with_reducible repeat (first | apply Kd.R_alloc | apply Kd.R_drewN | apply Kd.R_drew)); exact HO_26.out) hb); have n3_ := Aside0.mk (Kd.R_lower (Kd.R_newM (M := fun k_ => (w.heap.size ≤ k_)) ho26 (below_size (by repeat (first | (with_reducible first | exact HB.out | apply below_alloc | apply pw_below_drewN | apply below_drew1 | refine below_set ?_ (IsS91.ge HI216.out) | refine below_set ?_ GE213.out) | exact HB.out))) (fun k_ h_ => h_)) (below_size (by repeat (first | (with_reducible first | exact HB.out | apply below_alloc | apply pw_below_drewN | apply below_drew1 | refine below_set ?_ (IsS91.ge HI216.out) | refine below_set ?_ GE213.out) | exact HB.out)))); have n4_ := Aside0.mk (blk_below (g := gb213) (o := .cells #[.string a3_0, .int .i64 a3_1, .int .i64 a3_2, .string a3_3] 34 (0, 0)) (by (with_reducible repeat (first | refine blk_drewN ?_ _ | refine blk_drew ?_ | refine blk_alloc ?_ _)); exact BK213.out) hb); have n5_ := Aside0.mk (IsS91.below (by repeat (first | (with_reducible first | exact HI216.out | apply IsS91.alloc | apply IsS91.drewN | apply IsS91.drew | apply IsS91.set_1 | refine IsS91.far ?_ NB216_213.out _) | exact HI216.out)) hb); have n6_ := Aside0.mk (below_step (by repeat (first | (with_reducible first | exact HB.out | apply below_alloc | apply pw_below_drewN | apply below_drew1 | refine below_set ?_ (IsS91.ge HI216.out) | refine below_set ?_ GE213.out) | exact HB.out)) hb); clear HO_1; clear HO_12; clear HO_26; clear BK213; clear HI216; clear HB; have HO_1 := n0_; have HO_12 := n1_; have HO_26 := n2_; have HO230 := n3_; have BK213 := n4_; have HI216 := n5_; have HB := n6_; clear n0_ n1_ n2_ n3_ n4_ n5_ n6_; clear hb ho26; obtain ⟨Ao27, co27, eo27⟩ := Kd.R_slice HO230.out; subst eo27) | ((with_reducible refine gate_callee (f := 20) rfl ?_); refine goesL_ (some 39) rfl rfl Tryd.func20 (by kernel_rfl) rfl #[.pointer (some ⟨g216, 0, none⟩), .slice Ao27 y228.length co27] rfl (by (try simp only [List.map_toArray, List.map_cons, List.map_nil]); first | done | rfl | (simp only [List.length_drop, List.length_take]; rfl)) ?_; (with_reducible refine (kauditmill_Case_Pick.calls g216 t214 x217001_1 _ _ y228 t231 t232 w _ ?side1 ?side2 ?side3 ?side4 ?side5 A20.out).mono ?_); (case side1 => repeat (first | (with_reducible first | exact HI216.out | apply IsS91.alloc | apply IsS91.drewN | apply IsS91.drew | apply IsS91.set_1 | refine IsS91.far ?_ NB216_213.out _) | exact HI216.out)); (case side2 => repeat (first | (with_reducible first | exact HB.out | apply below_alloc | apply pw_below_drewN | apply below_drew1 | refine below_set ?_ (IsS91.ge HI216.out) | refine below_set ?_ GE213.out) | exact HB.out)); (case side3 => repeat (first | exact (Kd.R_reads' HO230.out).2.2 | (with_reducible refine Kd.C_alloc ?_ _) | (with_reducible refine Kd.C_drewN ?_ _) | (with_reducible refine Kd.C_drew ?_))); (case side4 => exact (Kd.R_reads' HO230.out).2.1); (case side5 => exact far_slice (IsS91.own_ne HI216.out HO230.out (by decide))); rintro e w28 ⟨rfl, hi, hb, hk⟩; refine ⟨_, rfl, ?_⟩; have n0_ := Aside0.mk (Kd.V_mono (Kd.V_keep (Kd.V_mono (ok := fun k_ => ((((P1_ k_ ∨ w.heap.size ≤ k_)) ∧ (some k_ ≠ (u12 : Value).ownBlock ∧ (some k_ ≠ (.slice (some ad223) y220.length co15 : Value).ownBlock ∧ (k_ ≠ gb213 ∧ k_ ≠ g216)))) ∧ some k_ ≠ (.slice Ao27 y228.length co27 : Value).ownBlock)) (by (with_reducible repeat (first | apply Kd.V_alloc | apply Kd.V_drewN | apply Kd.V_drew)); exact HO_1.out) (fun k_ hk_ => (⟨hk_, hk_.1.2.2.2.2⟩ : _ ∧ k_ ≠ g216))) hk (fun _ h => h.2)) (fun _ h => h.1)); have n1_ := Aside0.mk (Kd.R_mono (Kd.R_keep (IsS91.apart (show IsS91 w _ g216 t214 x217001_1 from by repeat (first | (with_reducible first | exact HI216.out | apply IsS91.alloc | apply IsS91.drewN | apply IsS91.drew | apply IsS91.set_1 | refine IsS91.far ?_ NB216_213.out _) | exact HI216.out)) (by (with_reducible repeat (first | apply Kd.R_alloc | apply Kd.R_drewN | apply Kd.R_drew)); exact HO_12.out) (by decide)) hk (fun _ h => h.2)) (fun _ h => h.1)); have n2_ := Aside0.mk (Kd.R_mono (Kd.R_keep (IsS91.apart (show IsS91 w _ g216 t214 x217001_1 from by repeat (first | (with_reducible first | exact HI216.out | apply IsS91.alloc | apply IsS91.drewN | apply IsS91.drew | apply IsS91.set_1 | refine IsS91.far ?_ NB216_213.out _) | exact HI216.out)) (by (with_reducible repeat (first | apply Kd.R_alloc | apply Kd.R_drewN | apply Kd.R_drew)); exact HO_26.out) (by decide)) hk (fun _ h => h.2)) (fun _ h => h.1)); have n3_ := Aside0.mk (KeepBut.blk hk (g' := gb213) (o := .cells #[.string a3_0, .int .i64 a3_1, .int .i64 a3_2, .string a3_3] 34 (0, 0)) (by (with_reducible repeat (first | refine blk_drewN ?_ _ | refine blk_drew ?_ | refine blk_alloc ?_ _)); exact BK213.out) NB213_216.out (by simp)); have n4_ := Aside0.mk (Kd.R_mono (Kd.R_keep (IsS91.apart (show IsS91 w _ g216 t214 x217001_1 from by repeat (first | (with_reducible first | exact HI216.out | apply IsS91.alloc | apply IsS91.drewN | apply IsS91.drew | apply IsS91.set_1 | refine IsS91.far ?_ NB216_213.out _) | exact HI216.out)) (by (with_reducible repeat (first | apply Kd.R_alloc | apply Kd.R_drewN | apply Kd.R_drew)); exact HO230.out) (by decide)) hk (fun _ h => h.2)) (fun _ h => h.1)); have n5_ := Aside0.mk (hb); have n6_ := Aside0.mk (hi); clear HO_1; clear HO_12; clear HO_26; clear BK213; clear HO230; clear HB; clear HI216; have HO_1 := n0_; have HO_12 := n1_; have HO_26 := n2_; have BK213 := n3_; have HO230 := n4_; have HB := n5_; have HI216 := n6_; clear n0_ n1_ n2_ n3_ n4_ n5_ n6_; (try clear hb); (try clear hb2); (try clear hk); (try clear hi)) | ((with_reducible refine gate_callee (f := 19) rfl ?_); refine goesL_ (some 40) rfl rfl Tryd.func19 (by kernel_rfl) rfl #[.string (rdOf ByteArray.empty y220 x28_1), .int .i64 t231] rfl (by (try simp only [List.map_toArray, List.map_cons, List.map_nil]); first | done | rfl | (simp only [List.length_drop, List.length_take]; rfl)) ?_; (with_reducible refine (kauditmill_Num.calls (rdOf ByteArray.empty y220 x28_1) t231 t233 t234 t235 t236 _ A21.out).mono ?_); rintro e w29 ⟨rfl, hb⟩; refine ⟨_, rfl, ?_⟩; have n0_ := Aside0.mk (Kd.V_below (by (with_reducible repeat (first | apply Kd.V_alloc | apply Kd.V_drewN | apply Kd.V_drew)); exact HO_1.out) hb); have n1_ := Aside0.mk (Kd.R_below (by (with_reducible repeat (first | apply Kd.R_alloc | apply Kd.R_drewN | apply Kd.R_drew)); exact HO_12.out) hb); have n2_ := Aside0.mk (Kd.R_below (by (with_reducible repeat (first | apply Kd.R_alloc | apply Kd.R_drewN | apply Kd.R_drew)); exact HO_26.out) hb); have n3_ := Aside0.mk (Kd.R_below (by (with_reducible repeat (first | apply Kd.R_alloc | apply Kd.R_drewN | apply Kd.R_drew)); exact HO230.out) hb); have n4_ := Aside0.mk (blk_below (g := gb213) (o := .cells #[.string a3_0, .int .i64 a3_1, .int .i64 a3_2, .string a3_3] 34 (0, 0)) (by (with_reducible repeat (first | refine blk_drewN ?_ _ | refine blk_drew ?_ | refine blk_alloc ?_ _)); exact BK213.out) hb); have n5_ := Aside0.mk (IsS91.below (by repeat (first | (with_reducible first | exact HI216.out | apply IsS91.alloc | apply IsS91.drewN | apply IsS91.drew | apply IsS91.set_1 | refine IsS91.far ?_ NB216_213.out _) | exact HI216.out)) hb); have n6_ := Aside0.mk (below_step (by repeat (first | (with_reducible first | exact HB.out | apply below_alloc | apply pw_below_drewN | apply below_drew1 | refine below_set ?_ (IsS91.ge HI216.out) | refine below_set ?_ GE213.out) | exact HB.out)) hb); clear HO_1; clear HO_12; clear HO_26; clear HO230; clear BK213; clear HI216; clear HB; have HO_1 := n0_; have HO_12 := n1_; have HO_26 := n2_; have HO230 := n3_; have BK213 := n4_; have HI216 := n5_; have HB := n6_; clear n0_ n1_ n2_ n3_ n4_ n5_ n6_; (try clear hb); (try clear hb2); (try clear hk); (try clear hi)) | ((with_reducible refine gate_callee (f := 21) rfl ?_); refine goesL_ (some 42) rfl rfl Tryd.func21 (by kernel_rfl) rfl #[.string (rdOf ByteArray.empty y220 x28_1), .string (⟨#[55]⟩ : ByteArray)] rfl (by (try simp only [List.map_toArray, List.map_cons, List.map_nil]); first | done | rfl | (simp only [List.length_drop, List.length_take]; rfl)) ?_; (with_reducible refine (kauditmill_Str.calls (rdOf ByteArray.empty y220 x28_1) (⟨#[55]⟩ : ByteArray) t237 t238 t239 t240 _ A22.out).mono ?_); rintro e w30 ⟨rfl, hb⟩; refine ⟨_, rfl, ?_⟩; have n0_ := Aside0.mk (Kd.V_below (by (with_reducible repeat (first | apply Kd.V_alloc | apply Kd.V_drewN | apply Kd.V_drew)); exact HO_1.out) hb); have n1_ := Aside0.mk (Kd.R_below (by (with_reducible repeat (first | apply Kd.R_alloc | apply Kd.R_drewN | apply Kd.R_drew)); exact HO_12.out) hb); have n2_ := Aside0.mk (Kd.R_below (by (with_reducible repeat (first | apply Kd.R_alloc | apply Kd.R_drewN | apply Kd.R_drew)); exact HO_26.out) hb); have n3_ := Aside0.mk (Kd.R_below (by (with_reducible repeat (first | apply Kd.R_alloc | apply Kd.R_drewN | apply Kd.R_drew)); exact HO230.out) hb); have n4_ := Aside0.mk (blk_below (g := gb213) (o := .cells #[.string a3_0, .int .i64 a3_1, .int .i64 a3_2, .string a3_3] 34 (0, 0)) (by (with_reducible repeat (first | refine blk_drewN ?_ _ | refine blk_drew ?_ | refine blk_alloc ?_ _)); exact BK213.out) hb); have n5_ := Aside0.mk (IsS91.below (by repeat (first | (with_reducible first | exact HI216.out | apply IsS91.alloc | apply IsS91.drewN | apply IsS91.drew | apply IsS91.set_1 | refine IsS91.far ?_ NB216_213.out _) | exact HI216.out)) hb); have n6_ := Aside0.mk (below_step (by repeat (first | (with_reducible first | exact HB.out | apply below_alloc | apply pw_below_drewN | apply below_drew1 | refine below_set ?_ (IsS91.ge HI216.out) | refine below_set ?_ GE213.out) | exact HB.out)) hb); clear HO_1; clear HO_12; clear HO_26; clear HO230; clear BK213; clear HI216; clear HB; have HO_1 := n0_; have HO_12 := n1_; have HO_26 := n2_; have HO230 := n3_; have BK213 := n4_; have HI216 := n5_; have HB := n6_; clear n0_ n1_ n2_ n3_ n4_ n5_ n6_; (try clear hb); (try clear hb2); (try clear hk); (try clear hi)) | ((with_reducible refine gate_dst (N := 43) rfl ?_); refine Kd.R_lit k34 _ 34 ?hg (N := 43) ?hd (xs := ([(⟨t224, t225, t226, t227⟩ : S34), (⟨t233, t234, t235, t236⟩ : S34), (⟨t237, t238, t239, t240⟩ : S34)] : List (S34))) (inner := [.string t224, .int .i64 t225, .int .i64 t226, .string t227, .string t233, .int .i64 t234, .int .i64 t235, .string t236, .string t237, .int .i64 t238, .int .i64 t239, .string t240]) (ok := fun _ => True) (okp := fun _ => True) ?hr ?hp (fun _ hk => hk) trivial (Below.refl _ _) (Nat.le_refl _) (by simp) ?_; (case hd => rfl); (case hg => rfl); (case hr => first | (go_simp; done) | (go_simp; rfl)); (case hp => exact (Reps.c4 (show Kd.M k34 _ _ _ (⟨t224, t225, t226, t227⟩ : S34) [.string t224, .int .i64 t225, .int .i64 t226, .string t227] from (k34_mkM _ _ _ (⟨t224, t225, t226, t227⟩ : S34) )) (Reps.c4 (show Kd.M k34 _ _ _ (⟨t233, t234, t235, t236⟩ : S34) [.string t233, .int .i64 t234, .int .i64 t235, .string t236] from (k34_mkM _ _ _ (⟨t233, t234, t235, t236⟩ : S34) )) (Reps.c4 (show Kd.M k34 _ _ _ (⟨t237, t238, t239, t240⟩ : S34) [.string t237, .int .i64 t238, .int .i64 t239, .string t240] from (k34_mkM _ _ _ (⟨t237, t238, t239, t240⟩ : S34) )) (Reps.none _ _))))); intro v242 w31 ho32 hb hg_ hnew_; clear hg_ hnew_; (first | rw [← Ny241.out] at ho32 | (simp only [Int.reduceToNat] at ho32; rw [← Ny241.out] at ho32)); have n0_ := Aside0.mk (Kd.V_elder' (by (with_reducible repeat (first | apply Kd.V_alloc | apply Kd.V_drewN | apply Kd.V_drew)); exact HO_1.out) (Kd.R_base ho32) hb); have n1_ := Aside0.mk (Kd.R_elder' (by (with_reducible repeat (first | apply Kd.R_alloc | apply Kd.R_drewN | apply Kd.R_drew)); exact HO_12.out) (Kd.R_base ho32) hb); have n2_ := Aside0.mk (Kd.R_below (by (with_reducible repeat (first | apply Kd.R_alloc | apply Kd.R_drewN | apply Kd.R_drew)); exact HO_26.out) hb); have n3_ := Aside0.mk (Kd.R_below (by (with_reducible repeat (first | apply Kd.R_alloc | apply Kd.R_drewN | apply Kd.R_drew)); exact HO230.out) hb); have n4_ := Aside0.mk (Kd.R_lower (Kd.R_newB (Kd.R_new' (Kd.R_newM (M := fun k_ => (w.heap.size ≤ k_)) ho32 (below_size (by repeat (first | (with_reducible first | exact HB.out | apply below_alloc | apply pw_below_drewN | apply below_drew1 | refine below_set ?_ (IsS91.ge HI216.out) | refine below_set ?_ GE213.out) | exact HB.out))) (fun k_ h_ => h_)) (Kd.R_lt (by (with_reducible repeat (first | apply Kd.R_alloc | apply Kd.R_drewN | apply Kd.R_drew)); exact HO_12.out))) (g := gb213) (o := .cells #[.string a3_0, .int .i64 a3_1, .int .i64 a3_2, .string a3_3] 34 (0, 0)) (by (with_reducible repeat (first | refine blk_drewN ?_ _ | refine blk_drew ?_ | refine blk_alloc ?_ _)); exact BK213.out)) (below_size (by repeat (first | (with_reducible first | exact HB.out | apply below_alloc | apply pw_below_drewN | apply below_drew1 | refine below_set ?_ (IsS91.ge HI216.out) | refine below_set ?_ GE213.out) | exact HB.out)))); have n5_ := Aside0.mk (blk_below (g := gb213) (o := .cells #[.string a3_0, .int .i64 a3_1, .int .i64 a3_2, .string a3_3] 34 (0, 0)) (by (with_reducible repeat (first | refine blk_drewN ?_ _ | refine blk_drew ?_ | refine blk_alloc ?_ _)); exact BK213.out) hb); have n6_ := Aside0.mk (IsS91.below (by repeat (first | (with_reducible first | exact HI216.out | apply IsS91.alloc | apply IsS91.drewN | apply IsS91.drew | apply IsS91.set_1 | refine IsS91.far ?_ NB216_213.out _) | exact HI216.out)) hb); have n7_ := Aside0.mk (below_step (by repeat (first | (with_reducible first | exact HB.out | apply below_alloc | apply pw_below_drewN | apply below_drew1 | refine below_set ?_ (IsS91.ge HI216.out) | refine below_set ?_ GE213.out) | exact HB.out)) hb); clear HO_1; clear HO_12; clear HO_26; clear HO230; clear BK213; clear HI216; clear HB; have HO_1 := n0_; have HO_12 := n1_; have HO_26 := n2_; have HO230 := n3_; have HO243 := n4_; have BK213 := n5_; have HI216 := n6_; have HB := n7_; clear n0_ n1_ n2_ n3_ n4_ n5_ n6_ n7_; clear hb ho32; obtain ⟨Ao34, co34, eo34⟩ := Kd.R_slice HO243.out; subst eo34) | ((with_reducible refine gate_builtin (b := .append) (xs := #[.tmp 32, .tmp 43]) rfl ?_); at_builtin; refine Kd.R_append_rows k34 (w0 := w) w.heap.size rfl (.tmp 32) (.tmp 43) 35 34 (.agg #[(.string ⟨#[]⟩), (.int .i64 0), (.int .i64 0), (.string ⟨#[]⟩)]) 48 rfl Tryd.underlying35 info34 rfl (by decide) (by omega) u12 x12_1 y241 _ _ _ (fun k_ => (w.heap.size ≤ k_) ∧ some k_ ≠ (.slice Ao34 y241.length co34 : Value).ownBlock ∧ k_ ≠ gb213) (fun _ => False) rfl rfl ?aO ?aR (fun _ _ h => h) (fun _ h => h.elim) ?aF ?aB ?aS ?aL ?_; (case aR => repeat (first | exact (Kd.R_reads' HO243.out).2.2 | (with_reducible refine Kd.C_alloc ?_ _) | (with_reducible refine Kd.C_drewN ?_ _) | (with_reducible refine Kd.C_drew ?_))); (case aB => exact (by repeat (first | (with_reducible first | exact HB.out | apply below_alloc | apply pw_below_drewN | apply below_drew1 | refine below_set ?_ (IsS91.ge HI216.out) | refine below_set ?_ GE213.out) | exact HB.out))); (case aF => exact (fun k_ hk => ⟨(Nat.le_trans (below_size (by repeat (first | (with_reducible first | exact HB.out | apply below_alloc | apply pw_below_drewN | apply below_drew1 | refine below_set ?_ (IsS91.ge HI216.out) | refine below_set ?_ GE213.out) | exact HB.out))) hk), Kd.fresh' (Kd.R_lt (by (with_reducible repeat (first | apply Kd.R_alloc | apply Kd.R_drewN | apply Kd.R_drew)); exact HO243.out)) k_ hk, Kd.freshB (g := gb213) (o := .cells #[.string a3_0, .int .i64 a3_1, .int .i64 a3_2, .string a3_3] 34 (0, 0)) (by (with_reducible repeat (first | refine blk_drewN ?_ _ | refine blk_drew ?_ | refine blk_alloc ?_ _)); exact BK213.out) k_ hk⟩)); (case aO => exact (by (with_reducible repeat (first | apply Kd.R_alloc | apply Kd.R_drewN | apply Kd.R_drew)); exact Kd.R_mono HO_12.out (fun _ hk => ⟨hk.1.1, ⟨hk.2, hk.1.2⟩⟩))); (case aS => exact (below_size (by repeat (first | (with_reducible first | exact HB.out | apply below_alloc | apply pw_below_drewN | apply below_drew1 | refine below_set ?_ (IsS91.ge HI216.out) | refine below_set ?_ GE213.out) | exact HB.out)))); (case aL => have := LMc23.out; omega); intro v245 w33 ho hb hg hat; rw [← Ny244.out] at ho; have n0_ := Aside0.mk (Kd.V_afterv (ok := (fun k_ => (P1_ k_ ∨ w.heap.size ≤ k_) ∧ some k_ ≠ (.slice (some ad223) y220.length co15 : Value).ownBlock ∧ some k_ ≠ (.slice Ao27 y228.length co27 : Value).ownBlock ∧ some k_ ≠ (.slice Ao34 y241.length co34 : Value).ownBlock ∧ k_ ≠ gb213 ∧ k_ ≠ g216)) (by (with_reducible repeat (first | apply Kd.V_alloc | apply Kd.V_drewN | apply Kd.V_drew)); exact Kd.V_mono HO_1.out (fun _ hk => ⟨⟨hk.1.1.1, ⟨hk.1.1.2.2.1, ⟨hk.1.2, ⟨hk.2, ⟨hk.1.1.2.2.2.1, hk.1.1.2.2.2.2⟩⟩⟩⟩⟩, hk.1.1.2.1⟩)) hg hat); have n1_ := Aside0.mk (Kd.R_over' (by (with_reducible repeat (first | apply Kd.R_alloc | apply Kd.R_drewN | apply Kd.R_drew)); exact HO_26.out) (Kd.R_typed (by (with_reducible repeat (first | apply Kd.R_alloc | apply Kd.R_drewN | apply Kd.R_drew)); exact HO_12.out)) (by decide) hg); have n2_ := Aside0.mk (blk_grown (g := gb213) (o := .cells #[.string a3_0, .int .i64 a3_1, .int .i64 a3_2, .string a3_3] 34 (0, 0)) (by (with_reducible repeat (first | refine blk_drewN ?_ _ | refine blk_drew ?_ | refine blk_alloc ?_ _)); exact BK213.out) hg (Kd.R_away HO_12.out (fun _ hk => hk.1.2))); have n3_ := Aside0.mk (IsS91.grown (by repeat (first | (with_reducible first | exact HI216.out | apply IsS91.alloc | apply IsS91.drewN | apply IsS91.drew | apply IsS91.set_1 | refine IsS91.far ?_ NB216_213.out _) | exact HI216.out)) hg (IsS91.own_ne HI216.out HO_12.out (by decide))); have n4_ := Aside0.mk (Kd.R_over' (by (with_reducible repeat (first | apply Kd.R_alloc | apply Kd.R_drewN | apply Kd.R_drew)); exact HO230.out) (Kd.R_typed (by (with_reducible repeat (first | apply Kd.R_alloc | apply Kd.R_drewN | apply Kd.R_drew)); exact HO_12.out)) (by decide) hg); have n5_ := Aside0.mk (Kd.R_after (ok := (fun k_ => (w.heap.size ≤ k_) ∧ k_ ≠ gb213)) (by (with_reducible repeat (first | apply Kd.R_alloc | apply Kd.R_drewN | apply Kd.R_drew)); exact Kd.R_mono HO243.out (fun _ hk => ⟨⟨hk.1.1.1, hk.2⟩, hk.1.2⟩)) hg hat); have n6_ := Aside0.mk (hb); have n7_ := Aside0.mk (ho); clear HO_1; clear HO_26; clear BK213; clear HI216; clear HO230; clear HO243; clear HB; clear HO_12; have HO_1 := n0_; have HO_26 := n1_; have BK213 := n2_; have HI216 := n3_; have HO230 := n4_; have HO243 := n5_; have HB := n6_; have HO246 := n7_; clear n0_ n1_ n2_ n3_ n4_ n5_ n6_ n7_; clear ho hb hg hat))
              go_roundg k1
              case measure => have := HK1.out; omega
              case rel => exact ⟨(y244), (wrap64 (x28_1 + 1)), (t232), (by first | rfl | (simp; done) | (simp [*]; done)), H', ⟨by have := HK1.out; omega⟩, ⟨by (with_reducible repeat (first | apply Kd.V_alloc | apply Kd.V_drewN | apply Kd.V_drew)); exact Kd.V_mono HO_1.out (fun _ hk => ⟨hk.1.1, ⟨hk.2, ⟨hk.1.2.1, ⟨hk.1.2.2.2.2.1, hk.1.2.2.2.2.2⟩⟩⟩⟩)⟩, ⟨by (with_reducible repeat (first | apply Kd.R_alloc | apply Kd.R_drewN | apply Kd.R_drew)); exact Kd.R_mono HO246.out (fun _ hk => ⟨hk.1, hk.2.2⟩)⟩, ⟨by (with_reducible repeat (first | apply Kd.R_alloc | apply Kd.R_drewN | apply Kd.R_drew)); exact HO_26.out⟩, ⟨by (with_reducible repeat (first | refine blk_drewN ?_ _ | refine blk_drew ?_ | refine blk_alloc ?_ _)); exact BK213.out⟩, ⟨by repeat (first | (with_reducible first | exact HI216.out | apply IsS91.alloc | apply IsS91.drewN | apply IsS91.drew | apply IsS91.set_1 | refine IsS91.far ?_ NB216_213.out _) | exact HI216.out)⟩, ⟨by repeat (first | (with_reducible first | exact HB.out | apply below_alloc | apply pw_below_drewN | apply below_drew1 | refine below_set ?_ (IsS91.ge HI216.out) | refine below_set ?_ GE213.out) | exact HB.out)⟩⟩
            · rw [if_neg c23] at H
              exact absurd H (by simp)
          · rw [if_neg c18] at H
            exact absurd H (by simp)
        · rw [if_neg c17] at H
          exact absurd H (by simp)
      · rw [if_neg c16] at H
        have c16b0 : decide (x28_1 < (y220.length : Int)) = false := decide_eq_false c16
        clear c16
        replace H := Option.bind_eq_some_iff.mp H
        obtain ⟨⟨t247, t250⟩, A350, H⟩ := H
        replace H : ((some (([t247, l1] : List (List (S47))) : List (List (S47)))).bind fun y251 => (kauditlaw37_NamesInterprets.l1 k1 a2 a4 x12_1 y251 (y251.length : Int) 0 t214 t250)) = some r := H
        have A35 := Aside0.mk A350
        clear A350
        obtain ⟨y251, hy251⟩ : ∃ y_ : List (List (S47)), y_ = (([t247, l1] : List (List (S47)))) := ⟨_, rfl⟩
        replace H : (kauditlaw37_NamesInterprets.l1 k1 a2 a4 x12_1 y251 (y251.length : Int) 0 t214 t250) = some r := by first | (rw [hy251]; with_reducible exact H) | (have H2_ := (Option.bind_some _ _).symm.trans H; rw [hy251]; with_reducible exact H2_) | (have H2_ := (Option.bind_some _ _).symm.trans H; with_reducible exact H2_) | with_reducible exact H | (rw [hy251]; exact H) | exact H
        have Ny251 := Aside0.mk hy251
        clear hy251
        have H' := Aside0.mk H
        clear H
        go_wp2_with (first | ((with_reducible refine gate_callee (f := 14) rfl ?_); refine goesL_ (some 47) rfl rfl Tryd.func14 (by kernel_rfl) rfl #[.pointer (some ⟨g216, 0, none⟩)] rfl (by (try simp only [List.map_toArray, List.map_cons, List.map_nil]); first | done | rfl | (simp only [List.length_drop, List.length_take]; rfl)) ?_; (with_reducible refine (kauditmill_Case_Namings.calls k1 g216 t214 x217001_1 t247 t250 w _ ?side1 ?side2 A35.out).mono ?_); (case side1 => repeat (first | (with_reducible first | exact HI216.out | apply IsS91.alloc | apply IsS91.drewN | apply IsS91.drew | apply IsS91.set_1 | refine IsS91.far ?_ NB216_213.out _) | exact HI216.out)); (case side2 => repeat (first | (with_reducible first | exact HB.out | apply below_alloc | apply pw_below_drewN | apply below_drew1 | refine below_set ?_ (IsS91.ge HI216.out) | refine below_set ?_ GE213.out) | exact HB.out)); rintro e w36 ⟨v248, rfl, ho0, hi, hb, hk⟩; refine ⟨_, rfl, ?_⟩; have n0_ := Aside0.mk (Kd.V_mono (Kd.V_told (Kd.V_oldK (Kd.V_mono (ok := fun k_ => (((P1_ k_ ∨ w.heap.size ≤ k_)) ∧ (some k_ ≠ (u12 : Value).ownBlock ∧ (some k_ ≠ (.slice Ao15 y220.length co15 : Value).ownBlock ∧ (k_ ≠ gb213 ∧ k_ ≠ g216))))) (by (with_reducible repeat (first | apply Kd.V_alloc | apply Kd.V_drewN | apply Kd.V_drew)); exact HO_1.out) (fun k_ hk_ => (⟨hk_, hk_.2.2.2.2⟩ : _ ∧ k_ ≠ g216))) hk) (Kd.R_base ho0)) (fun _ h_ => h_.1)); have n1_ := Aside0.mk (Kd.R_mono (Kd.R_keep (IsS91.apart (show IsS91 w _ g216 t214 x217001_1 from by repeat (first | (with_reducible first | exact HI216.out | apply IsS91.alloc | apply IsS91.drewN | apply IsS91.drew | apply IsS91.set_1 | refine IsS91.far ?_ NB216_213.out _) | exact HI216.out)) (by (with_reducible repeat (first | apply Kd.R_alloc | apply Kd.R_drewN | apply Kd.R_drew)); exact HO_12.out) (by decide)) hk (fun _ h => h.2)) (fun _ h => h.1)); have n2_ := Aside0.mk (Kd.R_mono (Kd.R_keep (IsS91.apart (show IsS91 w _ g216 t214 x217001_1 from by repeat (first | (with_reducible first | exact HI216.out | apply IsS91.alloc | apply IsS91.drewN | apply IsS91.drew | apply IsS91.set_1 | refine IsS91.far ?_ NB216_213.out _) | exact HI216.out)) (by (with_reducible repeat (first | apply Kd.R_alloc | apply Kd.R_drewN | apply Kd.R_drew)); exact HO_26.out) (by decide)) hk (fun _ h => h.2)) (fun _ h => h.1)); have n3_ := Aside0.mk (KeepBut.blk hk (g' := gb213) (o := .cells #[.string a3_0, .int .i64 a3_1, .int .i64 a3_2, .string a3_3] 34 (0, 0)) (by (with_reducible repeat (first | refine blk_drewN ?_ _ | refine blk_drew ?_ | refine blk_alloc ?_ _)); exact BK213.out) NB213_216.out (by simp)); have n4_ := Aside0.mk (Kd.R_lower (Kd.R_newM (M := fun k_ => (w.heap.size ≤ k_)) ho0 (below_size (by repeat (first | (with_reducible first | exact HB.out | apply below_alloc | apply pw_below_drewN | apply below_drew1 | refine below_set ?_ (IsS91.ge HI216.out) | refine below_set ?_ GE213.out) | exact HB.out))) (fun k_ h_ => h_)) (below_size (by repeat (first | (with_reducible first | exact HB.out | apply below_alloc | apply pw_below_drewN | apply below_drew1 | refine below_set ?_ (IsS91.ge HI216.out) | refine below_set ?_ GE213.out) | exact HB.out)))); have n5_ := Aside0.mk (hb); have n6_ := Aside0.mk (hi); clear HO_1; clear HO_12; clear HO_26; clear BK213; clear HB; clear HI216; have HO_1 := n0_; have HO_12 := n1_; have HO_26 := n2_; have BK213 := n3_; have HO249 := n4_; have HB := n5_; have HI216 := n6_; clear n0_ n1_ n2_ n3_ n4_ n5_ n6_; (try clear hb); (try clear hb2); (try clear hk); (try clear hi); (try clear ho0); obtain ⟨Ao37, co37, eo37⟩ := Kd.R_slice HO249.out; subst eo37) | ((with_reducible refine gate_dst (N := 49) rfl ?_); refine Kd.N_lit (Kd.slice 47 k47) _ 23 ?hg (N' := 49) ?hd (xs := ([t247, l1] : List (List (S47)))) (inner := [.slice Ao37 t247.length co37, .slice A1 l1.length c1]) (ok := (fun k_ => (P1_ k_ ∨ w.heap.size ≤ k_) ∧ some k_ ≠ (u12 : Value).ownBlock ∧ some k_ ≠ (.slice Ao15 y220.length co15 : Value).ownBlock ∧ k_ ≠ gb213 ∧ k_ ≠ g216)) (okp := (fun k_ => (P1_ k_ ∨ w.heap.size ≤ k_) ∧ some k_ ≠ (u12 : Value).ownBlock ∧ some k_ ≠ (.slice Ao15 y220.length co15 : Value).ownBlock ∧ k_ ≠ gb213 ∧ k_ ≠ g216)) ?hr ?hp (fun _ hk => hk) ((show ∀ k_, w36.heap.size ≤ k_ → (fun k_ => (P1_ k_ ∨ w.heap.size ≤ k_) ∧ some k_ ≠ (u12 : Value).ownBlock ∧ some k_ ≠ (.slice Ao15 y220.length co15 : Value).ownBlock ∧ k_ ≠ gb213 ∧ k_ ≠ g216) k_ from fun k_ hk => ⟨(.inr (Nat.le_trans (below_size (by repeat (first | (with_reducible first | exact HB.out | apply below_alloc | apply pw_below_drewN | apply below_drew1 | refine below_set ?_ (IsS91.ge HI216.out) | refine below_set ?_ GE213.out) | exact HB.out))) hk)), Kd.fresh' (Kd.R_lt (by (with_reducible repeat (first | apply Kd.R_alloc | apply Kd.R_drewN | apply Kd.R_drew)); exact HO_12.out)) k_ hk, Kd.fresh' (Kd.R_lt (by (with_reducible repeat (first | apply Kd.R_alloc | apply Kd.R_drewN | apply Kd.R_drew)); exact HO_26.out)) k_ hk, Kd.freshB (g := gb213) (o := .cells #[.string a3_0, .int .i64 a3_1, .int .i64 a3_2, .string a3_3] 34 (0, 0)) (by (with_reducible repeat (first | refine blk_drewN ?_ _ | refine blk_drew ?_ | refine blk_alloc ?_ _)); exact BK213.out) k_ hk, IsS91.fresh (by repeat (first | (with_reducible first | exact HI216.out | apply IsS91.alloc | apply IsS91.drewN | apply IsS91.drew | apply IsS91.set_1 | refine IsS91.far ?_ NB216_213.out _) | exact HI216.out)) k_ hk⟩) _ (Nat.le_refl _)) (Below.refl _ _) (Nat.le_refl _) (by simp) ?_; (case hd => rfl); (case hg => rfl); (case hr => first | (go_simp; done) | (go_simp; rfl)); (case hp => exact (Reps.one (show Kd.FK (Kd.slice 47 k47) _ _ t247 [.slice Ao37 t247.length co37] from (Kd.FK_slice_mk (Kd.R_reads' (Kd.R_mono (ok' := (fun k_ => (P1_ k_ ∨ w.heap.size ≤ k_) ∧ some k_ ≠ (u12 : Value).ownBlock ∧ some k_ ≠ (.slice Ao15 y220.length co15 : Value).ownBlock ∧ k_ ≠ gb213 ∧ k_ ≠ g216)) (IsS91.apart HI216.out (Kd.R_types (Kd.R_apart' (Kd.R_apart' (HO249.out) (Kd.R_typed HO_12.out) (by decide)) (Kd.R_typed HO_26.out) (by decide)) BK213.out (by decide)) (by decide)) (fun k_ hk => ⟨(.inr (hk.1.1.1.1.1)), ⟨hk.1.1.1.2, ⟨hk.1.1.2, ⟨hk.1.2, hk.2⟩⟩⟩⟩))).2.1 (Kd.R_F (Kd.R_mono (ok' := (fun k_ => (P1_ k_ ∨ w.heap.size ≤ k_) ∧ some k_ ≠ (u12 : Value).ownBlock ∧ some k_ ≠ (.slice Ao15 y220.length co15 : Value).ownBlock ∧ k_ ≠ gb213 ∧ k_ ≠ g216)) (IsS91.apart HI216.out (Kd.R_types (Kd.R_apart' (Kd.R_apart' (HO249.out) (Kd.R_typed HO_12.out) (by decide)) (Kd.R_typed HO_26.out) (by decide)) BK213.out (by decide)) (by decide)) (fun k_ hk => ⟨(.inr (hk.1.1.1.1.1)), ⟨hk.1.1.1.2, ⟨hk.1.1.2, ⟨hk.1.2, hk.2⟩⟩⟩⟩))))) (Reps.one (show Kd.FK (Kd.slice 47 k47) _ _ l1 [.slice A1 l1.length c1] from (Kd.FK_slice_mk (Kd.V_reads' (Kd.V_mono (ok' := (fun k_ => (P1_ k_ ∨ w.heap.size ≤ k_) ∧ some k_ ≠ (u12 : Value).ownBlock ∧ some k_ ≠ (.slice Ao15 y220.length co15 : Value).ownBlock ∧ k_ ≠ gb213 ∧ k_ ≠ g216)) (HO_1.out) (fun k_ hk => ⟨hk.1.1, ⟨hk.1.2.1, ⟨hk.1.2.2.1, ⟨hk.1.2.2.2.1, hk.1.2.2.2.2⟩⟩⟩⟩))).2.1 (Kd.V_F (Kd.V_mono (ok' := (fun k_ => (P1_ k_ ∨ w.heap.size ≤ k_) ∧ some k_ ≠ (u12 : Value).ownBlock ∧ some k_ ≠ (.slice Ao15 y220.length co15 : Value).ownBlock ∧ k_ ≠ gb213 ∧ k_ ≠ g216)) (HO_1.out) (fun k_ hk => ⟨hk.1.1, ⟨hk.1.2.1, ⟨hk.1.2.2.1, ⟨hk.1.2.2.2.1, hk.1.2.2.2.2⟩⟩⟩⟩))))) (Reps.none _ _)))); intro v252 w38 ho39 hb hg_ hnew_; clear hg_ hnew_; (first | rw [← Ny251.out] at ho39 | (simp only [Int.reduceToNat] at ho39; rw [← Ny251.out] at ho39)); have n0_ := Aside0.mk (Kd.V_elder' (by (with_reducible repeat (first | apply Kd.V_alloc | apply Kd.V_drewN | apply Kd.V_drew)); exact HO_1.out) (Kd.N_base ho39) hb); have n1_ := Aside0.mk (Kd.R_below (by (with_reducible repeat (first | apply Kd.R_alloc | apply Kd.R_drewN | apply Kd.R_drew)); exact HO_12.out) hb); have n2_ := Aside0.mk (Kd.R_below (by (with_reducible repeat (first | apply Kd.R_alloc | apply Kd.R_drewN | apply Kd.R_drew)); exact HO_26.out) hb); have n3_ := Aside0.mk (Kd.N_lower ho39 (below_size (by repeat (first | (with_reducible first | exact HB.out | apply below_alloc | apply pw_below_drewN | apply below_drew1 | refine below_set ?_ (IsS91.ge HI216.out) | refine below_set ?_ GE213.out) | exact HB.out)))); have n4_ := Aside0.mk (blk_below (g := gb213) (o := .cells #[.string a3_0, .int .i64 a3_1, .int .i64 a3_2, .string a3_3] 34 (0, 0)) (by (with_reducible repeat (first | refine blk_drewN ?_ _ | refine blk_drew ?_ | refine blk_alloc ?_ _)); exact BK213.out) hb); have n5_ := Aside0.mk (IsS91.below (by repeat (first | (with_reducible first | exact HI216.out | apply IsS91.alloc | apply IsS91.drewN | apply IsS91.drew | apply IsS91.set_1 | refine IsS91.far ?_ NB216_213.out _) | exact HI216.out)) hb); have n6_ := Aside0.mk (below_step (by repeat (first | (with_reducible first | exact HB.out | apply below_alloc | apply pw_below_drewN | apply below_drew1 | refine below_set ?_ (IsS91.ge HI216.out) | refine below_set ?_ GE213.out) | exact HB.out)) hb); clear HO_1; clear HO_12; clear HO_26; clear BK213; clear HI216; clear HB; clear HO249; have HO_1 := n0_; have HO_12 := n1_; have HO_26 := n2_; have HO253 := n3_; have BK213 := n4_; have HI216 := n5_; have HB := n6_; clear n0_ n1_ n2_ n3_ n4_ n5_ n6_; clear hb ho39; obtain ⟨Ao40, co40, eo40⟩ := Kd.N_slice HO253.out; subst eo40))
        go_loopg [51] k1 (fun kq v51 w' => ∃ (x51_2 : Int) (x217001_2 : Int), v51 = .int .i64 x51_2 ∧ Aside0 (kauditlaw37_NamesInterprets.l1 kq a2 a4 x12_1 y251 (y251.length : Int) x51_2 t214 x217001_2 = some r) ∧ Aside0 (kq ≤ k1) ∧ Aside0 (Kd.R k34 34 w' w.heap.size (fun k_ => (w.heap.size ≤ k_) ∧ k_ ≠ gb213) u12 x12_1) ∧ Aside0 (Kd.N (Kd.slice 47 k47) 23 w' w.heap.size (fun k_ => (P1_ k_ ∨ w.heap.size ≤ k_) ∧ some k_ ≠ (u12 : Value).ownBlock ∧ k_ ≠ gb213 ∧ k_ ≠ g216) (.slice Ao40 y251.length co40) y251) ∧ Aside0 (w'.heap[gb213]? = some (.cells #[.string a3_0, .int .i64 a3_1, .int .i64 a3_2, .string a3_3] 34 (0, 0))) ∧ Aside0 (IsS91 w w' g216 t214 x217001_2) ∧ Aside0 (Below w.heap.size w w'))
        case atStart => exact ⟨(0), (t250), (by first | rfl | (simp; done) | (simp [*]; done)), H', ⟨Nat.le_refl _⟩, ⟨by (with_reducible repeat (first | apply Kd.R_alloc | apply Kd.R_drewN | apply Kd.R_drew)); exact HO_12.out⟩, ⟨by (with_reducible repeat (first | apply Kd.N_alloc | apply Kd.N_drewN | apply Kd.N_drew)); exact Kd.N_mono HO253.out (fun _ hk => ⟨hk.1, ⟨hk.2.1, ⟨hk.2.2.2.1, hk.2.2.2.2⟩⟩⟩)⟩, ⟨by (with_reducible repeat (first | refine blk_drewN ?_ _ | refine blk_drew ?_ | refine blk_alloc ?_ _)); exact BK213.out⟩, ⟨by repeat (first | (with_reducible first | exact HI216.out | apply IsS91.alloc | apply IsS91.drewN | apply IsS91.drew | apply IsS91.set_1 | refine IsS91.far ?_ NB216_213.out _) | exact HI216.out)⟩, ⟨by repeat (first | (with_reducible first | exact HB.out | apply below_alloc | apply pw_below_drewN | apply below_drew1 | refine below_set ?_ (IsS91.ge HI216.out) | refine below_set ?_ GE213.out) | exact HB.out)⟩⟩
        case round =>
          clear H'
          try clear c1
          try clear c2
          try clear p2
          try clear q2
          try clear hx2
          try clear c4
          try clear p6
          try clear c9
          try clear c13
          try clear c14
          try clear c16
          try clear c16b0
          try clear c17
          try clear c17b0
          try clear c18
          try clear c18b0
          try clear c19
          try clear c20
          try clear c21
          try clear p22
          try clear q22
          try clear hx22
          try clear c23
          try clear hcz10_0
          try clear hcz10_1
          try clear hcz10_2
          try clear hcz10_3
          try clear hfz10_0
          try clear hfz10_1
          try clear hfz10_2
          try clear hfz10_3
          try clear hx223_0
          try clear p2
          try clear p223
          try clear q223
          obtain ⟨x51_2, x217001_2, rfl, HA, HK2, HO_12, HO_49, BK213, HI216, HB⟩ := hrel
          cases gk with
          | zero => exact absurd HA.out (by simp [kauditlaw37_NamesInterprets.l1])
          | succ k2 =>
            have H := HA.out
            clear HA
            simp only [kauditlaw37_NamesInterprets.l1] at H
            by_cases c41 : x51_2 < (y251.length : Int)
            · rw [if_pos c41] at H
              have c41b0 : decide (x51_2 < (y251.length : Int)) = true := decide_eq_true c41
              clear c41
              by_cases c42 : 0 ≤ x51_2
              · rw [if_pos c42] at H
                have c42b0 : decide (0 ≤ x51_2) = true := decide_eq_true c42
                clear c42
                by_cases c43 : x51_2 < (y251.length : Int)
                · rw [if_pos c43] at H
                  have c43b0 : decide (x51_2 < (y251.length : Int)) = true := decide_eq_true c43
                  clear c43
                  have H' := Aside0.mk H
                  clear H
                  have p254 : 0 ≤ (x51_2 : Int) := of_decide_eq_true (by first | (with_reducible assumption) | assumption)
                  have q254 : x51_2 < (y251.length : Int) := of_decide_eq_true (by first | (with_reducible assumption) | assumption)
                  obtain ⟨ad254, A254_0, c254_0, e254, hx254_0, hl254_0, hi254_0⟩ := at_L4 (Kd.N_reads' HO_49.out).2.2 x51_2 p254 q254
                  cases e254
                  obtain ⟨ce254, hce254, hMe254, hcc254⟩ := Kd.N_get HO_49.out [] x51_2 p254 (by first | exact q254 | exact of_decide_eq_true (by first | (with_reducible assumption) | assumption) | (have e_ := (Kd.N_reads' HO_49.out).1; omega))
                  obtain ⟨ua254_0, uc254_0, rfl, ul254_0, ge254_0⟩ := Kd.FK_slice_open hMe254
                  have hv254_0 := hcc254 0 _ rfl
                  rw [Nat.add_zero, show ((Kd.slice 47 k47)).sz = 1 from rfl, Nat.mul_one] at hv254_0
                  replace hv254_0 := Option.some.inj (hv254_0.symm.trans hx254_0)
                  injection hv254_0 with hva_ hvn_ hvc_
                  rw [hva_] at ge254_0
                  rw [hvc_] at ul254_0
                  have HL254_0 := Aside0.mk (show Kd.V k47 47 _ w.heap.size _ _ (rd_L4 y251 x51_2) from Kd.V_mk ul254_0 ge254_0)
                  clear hva_ hvn_ hvc_ ge254_0 ul254_0
                  clear hcc254 hce254
                  have HR254_0 := Aside0.mk hi254_0
                  have HC254_0 := Aside0.mk hl254_0
                  clear hi254_0 hl254_0
                  replace p254 := eq_true p254
                  replace q254 := eq_true q254
                  obtain ⟨Ao44, co44, eo44⟩ := Kd.R_slice HO_12.out
                  subst eo44
                  go_wp2
                  go_loopg [57] k2 (fun kq v57 w' => ∃ (x57_3 : Int) (x217001_3 : Int), v57 = .int .i64 x57_3 ∧ Aside0 (kauditlaw37_NamesInterprets.l2 kq a2 a4 x12_1 (rd_L4 y251 x51_2) y251 (y251.length : Int) x51_2 x12_1 (x12_1.length : Int) x57_3 t214 x217001_3 = some r) ∧ Aside0 (kq ≤ k2) ∧ Aside0 (Kd.R k34 34 w' w.heap.size (fun k_ => (w.heap.size ≤ k_) ∧ k_ ≠ gb213) (.slice Ao44 x12_1.length co44) x12_1) ∧ Aside0 (Kd.V k47 47 w' w.heap.size (fun k_ => (P1_ k_ ∨ w.heap.size ≤ k_) ∧ some k_ ≠ ((.slice Ao44 x12_1.length co44) : Value).ownBlock ∧ some k_ ≠ ((.slice (some ad254) y251.length co40) : Value).ownBlock ∧ some k_ ≠ ((.slice Ao44 x12_1.length co44) : Value).ownBlock ∧ k_ ≠ gb213 ∧ k_ ≠ g216) (.slice A254_0 (rd_L4 y251 x51_2).length c254_0) (rd_L4 y251 x51_2)) ∧ Aside0 (Kd.N (Kd.slice 47 k47) 23 w' w.heap.size (fun k_ => (P1_ k_ ∨ w.heap.size ≤ k_) ∧ some k_ ≠ ((.slice Ao44 x12_1.length co44) : Value).ownBlock ∧ some k_ ≠ ((.slice Ao44 x12_1.length co44) : Value).ownBlock ∧ k_ ≠ gb213 ∧ k_ ≠ g216) (.slice (some ad254) y251.length co40) y251) ∧ Aside0 (Kd.R k34 34 w' w.heap.size (fun k_ => (w.heap.size ≤ k_) ∧ k_ ≠ gb213) (.slice Ao44 x12_1.length co44) x12_1) ∧ Aside0 (w'.heap[gb213]? = some (.cells #[.string a3_0, .int .i64 a3_1, .int .i64 a3_2, .string a3_3] 34 (0, 0))) ∧ Aside0 (IsS91 w w' g216 t214 x217001_3) ∧ Aside0 (Below w.heap.size w w'))
                  case atStart => exact ⟨(0), (x217001_2), (by first | rfl | (simp; done) | (simp [*]; done)), H', ⟨Nat.le_refl _⟩, ⟨by (with_reducible repeat (first | apply Kd.R_alloc | apply Kd.R_drewN | apply Kd.R_drew)); exact HO_12.out⟩, ⟨by (with_reducible repeat (first | apply Kd.V_alloc | apply Kd.V_drewN | apply Kd.V_drew)); exact Kd.V_mono HL254_0.out (fun _ hk => ⟨hk.1.1, ⟨hk.1.2.1, ⟨hk.2, ⟨hk.1.2.1, ⟨hk.1.2.2.1, hk.1.2.2.2⟩⟩⟩⟩⟩)⟩, ⟨by (with_reducible repeat (first | apply Kd.N_alloc | apply Kd.N_drewN | apply Kd.N_drew)); exact Kd.N_mono HO_49.out (fun _ hk => ⟨hk.1, ⟨hk.2.1, ⟨hk.2.1, ⟨hk.2.2.1, hk.2.2.2⟩⟩⟩⟩)⟩, ⟨by (with_reducible repeat (first | apply Kd.R_alloc | apply Kd.R_drewN | apply Kd.R_drew)); exact HO_12.out⟩, ⟨by (with_reducible repeat (first | refine blk_drewN ?_ _ | refine blk_drew ?_ | refine blk_alloc ?_ _)); exact BK213.out⟩, ⟨by repeat (first | (with_reducible first | exact HI216.out | apply IsS91.alloc | apply IsS91.drewN | apply IsS91.drew | apply IsS91.set_1 | refine IsS91.far ?_ NB216_213.out _) | exact HI216.out)⟩, ⟨by repeat (first | (with_reducible first | exact HB.out | apply below_alloc | apply pw_below_drewN | apply below_drew1 | refine below_set ?_ (IsS91.ge HI216.out) | refine below_set ?_ GE213.out) | exact HB.out)⟩⟩
                  case round =>
                    clear H'
                    try clear c1
                    try clear c2
                    try clear p2
                    try clear q2
                    try clear hx2
                    try clear c4
                    try clear p6
                    try clear c9
                    try clear c13
                    try clear c14
                    try clear c16
                    try clear c16b0
                    try clear c17
                    try clear c17b0
                    try clear c18
                    try clear c18b0
                    try clear c19
                    try clear c20
                    try clear c21
                    try clear p22
                    try clear q22
                    try clear hx22
                    try clear c23
                    try clear c25
                    try clear p25
                    try clear q25
                    try clear hx25
                    try clear c41
                    try clear c41b0
                    try clear c42
                    try clear c42b0
                    try clear c43
                    try clear c43b0
                    try clear hcz10_0
                    try clear hcz10_1
                    try clear hcz10_2
                    try clear hcz10_3
                    try clear hfz10_0
                    try clear hfz10_1
                    try clear hfz10_2
                    try clear hfz10_3
                    try clear hx223_0
                    try clear hx254_0
                    try clear p2
                    try clear p22
                    try clear p223
                    try clear p254
                    try clear p6
                    try clear q2
                    try clear q22
                    try clear q223
                    try clear q254
                    obtain ⟨x57_3, x217001_3, rfl, HA, HK3, HO_12, HO_16, HO_49, HO_55, BK213, HI216, HB⟩ := hrel
                    cases gk with
                    | zero => exact absurd HA.out (by simp [kauditlaw37_NamesInterprets.l2])
                    | succ k3 =>
                      have H := HA.out
                      clear HA
                      simp only [kauditlaw37_NamesInterprets.l2] at H
                      by_cases c45 : x57_3 < (x12_1.length : Int)
                      · rw [if_pos c45] at H
                        have c45b0 : decide (x57_3 < (x12_1.length : Int)) = true := decide_eq_true c45
                        clear c45
                        by_cases c46 : 0 ≤ x57_3
                        · rw [if_pos c46] at H
                          have c46b0 : decide (0 ≤ x57_3) = true := decide_eq_true c46
                          clear c46
                          by_cases c47 : x57_3 < (x12_1.length : Int)
                          · rw [if_pos c47] at H
                            have c47b0 : decide (x57_3 < (x12_1.length : Int)) = true := decide_eq_true c47
                            clear c47
                            replace H := Option.bind_eq_some_iff.mp H
                            obtain ⟨⟨t257, t258⟩, A480, H⟩ := H
                            replace H : ((some (([a2, t257] : List Int) : List Int)).bind fun y259 => (kauditlaw37_NamesInterprets.l3 k3 a2 a4 x12_1 (rd_L4 y251 x51_2) y251 (y251.length : Int) x51_2 x12_1 (x12_1.length : Int) x57_3 y259 (y259.length : Int) 0 t214 t258 ((rd_T34 x12_1 x57_3).f0) ((rd_T34 x12_1 x57_3).f1) ((rd_T34 x12_1 x57_3).f2) ((rd_T34 x12_1 x57_3).f3))) = some r := H
                            have A48 := Aside0.mk A480
                            clear A480
                            obtain ⟨y259, hy259⟩ : ∃ y_ : List Int, y_ = (([a2, t257] : List Int)) := ⟨_, rfl⟩
                            replace H : (kauditlaw37_NamesInterprets.l3 k3 a2 a4 x12_1 (rd_L4 y251 x51_2) y251 (y251.length : Int) x51_2 x12_1 (x12_1.length : Int) x57_3 y259 (y259.length : Int) 0 t214 t258 ((rd_T34 x12_1 x57_3).f0) ((rd_T34 x12_1 x57_3).f1) ((rd_T34 x12_1 x57_3).f2) ((rd_T34 x12_1 x57_3).f3)) = some r := by first | (rw [hy259]; with_reducible exact H) | (have H2_ := (Option.bind_some _ _).symm.trans H; rw [hy259]; with_reducible exact H2_) | (have H2_ := (Option.bind_some _ _).symm.trans H; with_reducible exact H2_) | with_reducible exact H | (rw [hy259]; exact H) | exact H
                            have Ny259 := Aside0.mk hy259
                            clear hy259
                            have H' := Aside0.mk H
                            clear H
                            have p255 : 0 ≤ (x57_3 : Int) := of_decide_eq_true (by first | (with_reducible assumption) | assumption)
                            have q255 : x57_3 < (x12_1.length : Int) := of_decide_eq_true (by first | (with_reducible assumption) | assumption)
                            obtain ⟨ad255, e255, hx255_0, hx255_1, hx255_2, hx255_3⟩ := at_T34 (Kd.R_reads' HO_55.out).2.2 x57_3 p255 q255
                            cases e255
                            replace p255 := eq_true p255
                            replace q255 := eq_true q255
                            go_wp2_with (first | ((with_reducible refine gate_dst (N := 18) rfl ?_); refine box_event ?hg (N := 18) ?hd (cs := #[.string (⟨#[]⟩ : ByteArray), .int .i64 0, .int .i64 0, .string (⟨#[]⟩ : ByteArray)]) (t := 34) ?hr ?_; (case hd => rfl); (case hg => rfl); (case hr => first | (go_simp; done) | (go_simp; rfl)); intro gb256 hg w49 hbox hb; have n0_ := Aside0.mk (Kd.R_below (Kd.R_elderB (by (with_reducible repeat (first | apply Kd.R_alloc | apply Kd.R_drewN | apply Kd.R_drew)); exact HO_12.out) gb256 (Nat.le_of_eq hg.symm)) hb); have n1_ := Aside0.mk (Kd.V_below (Kd.V_elderB (by (with_reducible repeat (first | apply Kd.V_alloc | apply Kd.V_drewN | apply Kd.V_drew)); exact HO_16.out) gb256 (Nat.le_of_eq hg.symm)) hb); have n2_ := Aside0.mk (Kd.N_below (Kd.N_elderB (by (with_reducible repeat (first | apply Kd.N_alloc | apply Kd.N_drewN | apply Kd.N_drew)); exact HO_49.out) gb256 (Nat.le_of_eq hg.symm)) hb); have n3_ := Aside0.mk (Kd.R_below (Kd.R_elderB (by (with_reducible repeat (first | apply Kd.R_alloc | apply Kd.R_drewN | apply Kd.R_drew)); exact HO_55.out) gb256 (Nat.le_of_eq hg.symm)) hb); have n4_ := Aside0.mk (blk_below (g := gb213) (o := .cells #[.string a3_0, .int .i64 a3_1, .int .i64 a3_2, .string a3_3] 34 (0, 0)) (by (with_reducible repeat (first | refine blk_drewN ?_ _ | refine blk_drew ?_ | refine blk_alloc ?_ _)); exact BK213.out) hb); have n5_ := Aside0.mk (IsS91.below (by repeat (first | (with_reducible first | exact HI216.out | apply IsS91.alloc | apply IsS91.drewN | apply IsS91.drew | apply IsS91.set_1 | refine IsS91.far ?_ NB216_213.out _) | exact HI216.out)) hb); have n6_ := Aside0.mk (below_step (by repeat (first | (with_reducible first | exact HB.out | apply below_alloc | apply pw_below_drewN | apply below_drew1 | refine below_set ?_ (IsS91.ge HI216.out) | refine below_set ?_ GE213.out) | exact HB.out)) hb); have n7_ := Aside0.mk (hbox); have n8_ := Aside0.mk ((by rw [hg]; exact (below_size (by repeat (first | (with_reducible first | exact HB.out | apply below_alloc | apply pw_below_drewN | apply below_drew1 | refine below_set ?_ (IsS91.ge HI216.out) | refine below_set ?_ GE213.out) | exact HB.out))) : w.heap.size ≤ gb256)); have n9_ := Aside0.mk ((by rw [hg]; exact (below_size (by repeat (first | (with_reducible first | exact HB.out | apply below_alloc | apply pw_below_drewN | apply below_drew1 | refine below_set ?_ (IsS91.ge HI216.out) | refine below_set ?_ GE213.out) | exact HB.out))) : w.heap.size ≤ gb256)); have n10_ := Aside0.mk ((by rw [hg]; exact Nat.ne_of_lt (blk_lt (g := gb213) (o := .cells #[.string a3_0, .int .i64 a3_1, .int .i64 a3_2, .string a3_3] 34 (0, 0)) (by (with_reducible repeat (first | refine blk_drewN ?_ _ | refine blk_drew ?_ | refine blk_alloc ?_ _)); exact BK213.out)) : gb213 ≠ gb256)); have n11_ := Aside0.mk ((by rw [hg]; exact Nat.ne_of_gt (blk_lt (g := gb213) (o := .cells #[.string a3_0, .int .i64 a3_1, .int .i64 a3_2, .string a3_3] 34 (0, 0)) (by (with_reducible repeat (first | refine blk_drewN ?_ _ | refine blk_drew ?_ | refine blk_alloc ?_ _)); exact BK213.out)) : gb256 ≠ gb213)); have n12_ := Aside0.mk ((by rw [hg]; exact Nat.ne_of_lt (IsS91.lt (show IsS91 w _ g216 t214 x217001_3 from by repeat (first | (with_reducible first | exact HI216.out | apply IsS91.alloc | apply IsS91.drewN | apply IsS91.drew | apply IsS91.set_1 | refine IsS91.far ?_ NB216_213.out _) | exact HI216.out))) : g216 ≠ gb256)); have n13_ := Aside0.mk ((by rw [hg]; exact Nat.ne_of_gt (IsS91.lt (show IsS91 w _ g216 t214 x217001_3 from by repeat (first | (with_reducible first | exact HI216.out | apply IsS91.alloc | apply IsS91.drewN | apply IsS91.drew | apply IsS91.set_1 | refine IsS91.far ?_ NB216_213.out _) | exact HI216.out))) : gb256 ≠ g216)); clear HO_12; clear HO_16; clear HO_49; clear HO_55; clear BK213; clear HI216; clear HB; have HO_12 := n0_; have HO_16 := n1_; have HO_49 := n2_; have HO_55 := n3_; have BK213 := n4_; have HI216 := n5_; have HB := n6_; have BK256 := n7_; have GW256 := n8_; have GE256 := n9_; have NB213_256 := n10_; have NB256_213 := n11_; have NB216_256 := n12_; have NB256_216 := n13_; clear n0_ n1_ n2_ n3_ n4_ n5_ n6_ n7_ n8_ n9_ n10_ n11_ n12_ n13_; clear hb hbox hg; have hnb50 := NB256_213.out; have hnc50 := NB213_256.out; have hnb51 := NB256_216.out; have hnc51 := NB216_256.out; have hcz52_0 : w49.cell? ⟨gb256, 0, none⟩ = some (.string (⟨#[]⟩ : ByteArray)) := (blk_cell BK256.out 0).trans rfl; have hcz52_1 : w49.cell? ⟨gb256, 1, none⟩ = some (.int .i64 0) := (blk_cell BK256.out 1).trans rfl; have hcz52_2 : w49.cell? ⟨gb256, 2, none⟩ = some (.int .i64 0) := (blk_cell BK256.out 2).trans rfl; have hcz52_3 : w49.cell? ⟨gb256, 3, none⟩ = some (.string (⟨#[]⟩ : ByteArray)) := (blk_cell BK256.out 3).trans rfl; have hfz52_0 := blk_frozen BK256.out 0; have hfz52_1 := blk_frozen BK256.out 1; have hfz52_2 := blk_frozen BK256.out 2; have hfz52_3 := blk_frozen BK256.out 3) | ((with_reducible refine gate_callee (f := 22) rfl ?_); refine goesL_ (some 63) rfl rfl Tryd.func22 (by kernel_rfl) rfl #[.pointer (some ⟨g216, 0, none⟩), .int .i64 9] rfl (by (try simp only [List.map_toArray, List.map_cons, List.map_nil]); first | done | rfl | (simp only [List.length_drop, List.length_take]; rfl)) ?_; (with_reducible refine (kauditmill_Case_Int.calls g216 t214 x217001_3 9 t257 t258 w _ ?side1 ?side2 A48.out).mono ?_); (case side1 => repeat (first | (with_reducible first | exact HI216.out | apply IsS91.alloc | apply IsS91.drewN | apply IsS91.drew | apply IsS91.set_1 | refine IsS91.far ?_ NB216_213.out _ | refine IsS91.far ?_ NB216_256.out _) | exact HI216.out)); (case side2 => repeat (first | (with_reducible first | exact HB.out | apply below_alloc | apply pw_below_drewN | apply below_drew1 | refine below_set ?_ (IsS91.ge HI216.out) | refine below_set ?_ GE213.out | refine below_set ?_ GE256.out) | exact HB.out)); rintro e w53 ⟨rfl, hi, hb, hk⟩; refine ⟨_, rfl, ?_⟩; have n0_ := Aside0.mk (Kd.R_mono (Kd.R_keep (IsS91.apart (show IsS91 w _ g216 t214 x217001_3 from by repeat (first | (with_reducible first | exact HI216.out | apply IsS91.alloc | apply IsS91.drewN | apply IsS91.drew | apply IsS91.set_1 | refine IsS91.far ?_ NB216_213.out _ | refine IsS91.far ?_ NB216_256.out _) | exact HI216.out)) (by (with_reducible repeat (first | apply Kd.R_alloc | apply Kd.R_drewN | apply Kd.R_drew)); exact (Kd.R_mono (Kd.R_far (p := ⟨gb256, 3, none⟩) (Kd.R_far (p := ⟨gb256, 2, none⟩) (Kd.R_far (p := ⟨gb256, 1, none⟩) (Kd.R_far (p := ⟨gb256, 0, none⟩) (Kd.R_mono HO_12.out (fun k_ hk => (⟨hk, hk.2⟩ : _ ∧ k_ ≠ gb256))) (fun _ hk => hk.2) (.string ((rd_T34 x12_1 x57_3).f0))) (fun _ hk => hk.2) (.int .i64 ((rd_T34 x12_1 x57_3).f1))) (fun _ hk => hk.2) (.int .i64 ((rd_T34 x12_1 x57_3).f2))) (fun _ hk => hk.2) (.string ((rd_T34 x12_1 x57_3).f3))) (fun _ h_ => h_.1))) (by decide)) hk (fun _ h => h.2)) (fun _ h => h.1)); have n1_ := Aside0.mk (Kd.V_mono (Kd.V_keep (Kd.V_mono (ok := fun k_ => ((((P1_ k_ ∨ w.heap.size ≤ k_)) ∧ (some k_ ≠ (.slice (some ad255) x12_1.length co44 : Value).ownBlock ∧ (some k_ ≠ (.slice (some ad254) y251.length co40 : Value).ownBlock ∧ (some k_ ≠ (.slice (some ad255) x12_1.length co44 : Value).ownBlock ∧ (k_ ≠ gb213 ∧ k_ ≠ g216))))) ∧ k_ ≠ gb256)) (by (with_reducible repeat (first | apply Kd.V_alloc | apply Kd.V_drewN | apply Kd.V_drew)); exact (Kd.V_mono (Kd.V_far (p := ⟨gb256, 3, none⟩) (Kd.V_far (p := ⟨gb256, 2, none⟩) (Kd.V_far (p := ⟨gb256, 1, none⟩) (Kd.V_far (p := ⟨gb256, 0, none⟩) (Kd.V_mono HO_16.out (fun k_ hk => (⟨hk, hk.2⟩ : _ ∧ k_ ≠ gb256))) (fun _ hk => hk.2) (.string ((rd_T34 x12_1 x57_3).f0))) (fun _ hk => hk.2) (.int .i64 ((rd_T34 x12_1 x57_3).f1))) (fun _ hk => hk.2) (.int .i64 ((rd_T34 x12_1 x57_3).f2))) (fun _ hk => hk.2) (.string ((rd_T34 x12_1 x57_3).f3))) (fun _ h_ => h_.1))) (fun k_ hk_ => (⟨hk_, hk_.1.2.2.2.2.2⟩ : _ ∧ k_ ≠ g216))) hk (fun _ h => h.2)) (fun _ h => h.1)); have n2_ := Aside0.mk (Kd.N_mono (Kd.N_keep (Kd.N_mono (ok := fun k_ => ((((P1_ k_ ∨ w.heap.size ≤ k_)) ∧ (some k_ ≠ (.slice (some ad255) x12_1.length co44 : Value).ownBlock ∧ (some k_ ≠ (.slice (some ad255) x12_1.length co44 : Value).ownBlock ∧ (k_ ≠ gb213 ∧ k_ ≠ g216)))) ∧ k_ ≠ gb256)) (by (with_reducible repeat (first | apply Kd.N_alloc | apply Kd.N_drewN | apply Kd.N_drew)); exact (Kd.N_mono (Kd.N_far (p := ⟨gb256, 3, none⟩) (Kd.N_far (p := ⟨gb256, 2, none⟩) (Kd.N_far (p := ⟨gb256, 1, none⟩) (Kd.N_far (p := ⟨gb256, 0, none⟩) (Kd.N_mono HO_49.out (fun k_ hk => (⟨hk, hk.2⟩ : _ ∧ k_ ≠ gb256))) (fun _ hk => hk.2) (.string ((rd_T34 x12_1 x57_3).f0))) (fun _ hk => hk.2) (.int .i64 ((rd_T34 x12_1 x57_3).f1))) (fun _ hk => hk.2) (.int .i64 ((rd_T34 x12_1 x57_3).f2))) (fun _ hk => hk.2) (.string ((rd_T34 x12_1 x57_3).f3))) (fun _ h_ => h_.1))) (fun k_ hk_ => (⟨hk_, hk_.1.2.2.2.2⟩ : _ ∧ k_ ≠ g216))) hk (fun _ h => h.2)) (fun _ h => h.1)); have n3_ := Aside0.mk (Kd.R_mono (Kd.R_keep (IsS91.apart (show IsS91 w _ g216 t214 x217001_3 from by repeat (first | (with_reducible first | exact HI216.out | apply IsS91.alloc | apply IsS91.drewN | apply IsS91.drew | apply IsS91.set_1 | refine IsS91.far ?_ NB216_213.out _ | refine IsS91.far ?_ NB216_256.out _) | exact HI216.out)) (by (with_reducible repeat (first | apply Kd.R_alloc | apply Kd.R_drewN | apply Kd.R_drew)); exact (Kd.R_mono (Kd.R_far (p := ⟨gb256, 3, none⟩) (Kd.R_far (p := ⟨gb256, 2, none⟩) (Kd.R_far (p := ⟨gb256, 1, none⟩) (Kd.R_far (p := ⟨gb256, 0, none⟩) (Kd.R_mono HO_55.out (fun k_ hk => (⟨hk, hk.2⟩ : _ ∧ k_ ≠ gb256))) (fun _ hk => hk.2) (.string ((rd_T34 x12_1 x57_3).f0))) (fun _ hk => hk.2) (.int .i64 ((rd_T34 x12_1 x57_3).f1))) (fun _ hk => hk.2) (.int .i64 ((rd_T34 x12_1 x57_3).f2))) (fun _ hk => hk.2) (.string ((rd_T34 x12_1 x57_3).f3))) (fun _ h_ => h_.1))) (by decide)) hk (fun _ h => h.2)) (fun _ h => h.1)); have n4_ := Aside0.mk (KeepBut.blk hk (g' := gb213) (o := .cells #[.string a3_0, .int .i64 a3_1, .int .i64 a3_2, .string a3_3] 34 (0, 0)) (by (with_reducible repeat (first | refine blk_drewN ?_ _ | refine blk_drew ?_ | refine blk_alloc ?_ _)); refine blk_far ?_ NB213_256.out _; (with_reducible repeat (first | refine blk_drewN ?_ _ | refine blk_drew ?_ | refine blk_alloc ?_ _)); refine blk_far ?_ NB213_256.out _; (with_reducible repeat (first | refine blk_drewN ?_ _ | refine blk_drew ?_ | refine blk_alloc ?_ _)); refine blk_far ?_ NB213_256.out _; (with_reducible repeat (first | refine blk_drewN ?_ _ | refine blk_drew ?_ | refine blk_alloc ?_ _)); refine blk_far ?_ NB213_256.out _; (with_reducible repeat (first | refine blk_drewN ?_ _ | refine blk_drew ?_ | refine blk_alloc ?_ _)); exact BK213.out) NB213_216.out (by simp)); have n5_ := Aside0.mk (KeepBut.blk hk (g' := gb256) (o := .cells #[.string ((rd_T34 x12_1 x57_3).f0), .int .i64 ((rd_T34 x12_1 x57_3).f1), .int .i64 ((rd_T34 x12_1 x57_3).f2), .string ((rd_T34 x12_1 x57_3).f3)] 34 (0, 0)) (by (with_reducible repeat (first | refine blk_drewN ?_ _ | refine blk_drew ?_ | refine blk_alloc ?_ _)); refine blk_put (cs := #[.string ((rd_T34 x12_1 x57_3).f0), .int .i64 ((rd_T34 x12_1 x57_3).f1), .int .i64 ((rd_T34 x12_1 x57_3).f2), .string (⟨#[]⟩ : ByteArray)]) ?_ 3 _ rfl; (with_reducible repeat (first | refine blk_drewN ?_ _ | refine blk_drew ?_ | refine blk_alloc ?_ _)); refine blk_put (cs := #[.string ((rd_T34 x12_1 x57_3).f0), .int .i64 ((rd_T34 x12_1 x57_3).f1), .int .i64 0, .string (⟨#[]⟩ : ByteArray)]) ?_ 2 _ rfl; (with_reducible repeat (first | refine blk_drewN ?_ _ | refine blk_drew ?_ | refine blk_alloc ?_ _)); refine blk_put (cs := #[.string ((rd_T34 x12_1 x57_3).f0), .int .i64 0, .int .i64 0, .string (⟨#[]⟩ : ByteArray)]) ?_ 1 _ rfl; (with_reducible repeat (first | refine blk_drewN ?_ _ | refine blk_drew ?_ | refine blk_alloc ?_ _)); refine blk_put (cs := #[.string (⟨#[]⟩ : ByteArray), .int .i64 0, .int .i64 0, .string (⟨#[]⟩ : ByteArray)]) ?_ 0 _ rfl; (with_reducible repeat (first | refine blk_drewN ?_ _ | refine blk_drew ?_ | refine blk_alloc ?_ _)); exact BK256.out) NB256_216.out (by simp)); have n6_ := Aside0.mk (hb); have n7_ := Aside0.mk (hi); clear HO_12; clear HO_16; clear HO_49; clear HO_55; clear BK213; clear BK256; clear HB; clear HI216; have HO_12 := n0_; have HO_16 := n1_; have HO_49 := n2_; have HO_55 := n3_; have BK213 := n4_; have BK256 := n5_; have HB := n6_; have HI216 := n7_; clear n0_ n1_ n2_ n3_ n4_ n5_ n6_ n7_; (try clear hb); (try clear hb2); (try clear hk); (try clear hi)) | ((with_reducible refine gate_dst (N := 64) rfl ?_); refine Kd.R_lit (Kd.int .i64) _ 3 ?hg (N := 64) ?hd (xs := ([a2, t257] : List Int)) (inner := [.int .i64 a2, .int .i64 t257]) (ok := fun _ => True) (okp := fun _ => True) ?hr ?hp (fun _ hk => hk) trivial (Below.refl _ _) (Nat.le_refl _) (by simp) ?_; (case hd => rfl); (case hg => rfl); (case hr => first | (go_simp; done) | (go_simp; rfl)); (case hp => exact (Reps.one (show Kd.M (Kd.int .i64) _ _ _ a2 [.int .i64 a2] from rfl) (Reps.one (show Kd.M (Kd.int .i64) _ _ _ t257 [.int .i64 t257] from rfl) (Reps.none _ _)))); intro v260 w54 ho55 hb hg_ hnew_; clear hg_ hnew_; (first | rw [← Ny259.out] at ho55 | (simp only [Int.reduceToNat] at ho55; rw [← Ny259.out] at ho55)); have n0_ := Aside0.mk (Kd.R_below (by (with_reducible repeat (first | apply Kd.R_alloc | apply Kd.R_drewN | apply Kd.R_drew)); exact HO_12.out) hb); have n1_ := Aside0.mk (Kd.V_elder' (by (with_reducible repeat (first | apply Kd.V_alloc | apply Kd.V_drewN | apply Kd.V_drew)); exact HO_16.out) (Kd.R_base ho55) hb); have n2_ := Aside0.mk (Kd.N_elder' (by (with_reducible repeat (first | apply Kd.N_alloc | apply Kd.N_drewN | apply Kd.N_drew)); exact HO_49.out) (Kd.R_base ho55) hb); have n3_ := Aside0.mk (Kd.R_below (by (with_reducible repeat (first | apply Kd.R_alloc | apply Kd.R_drewN | apply Kd.R_drew)); exact HO_55.out) hb); have n4_ := Aside0.mk (Kd.R_lower (Kd.R_newM (M := fun k_ => (w.heap.size ≤ k_)) ho55 (below_size (by repeat (first | (with_reducible first | exact HB.out | apply below_alloc | apply pw_below_drewN | apply below_drew1 | refine below_set ?_ (IsS91.ge HI216.out) | refine below_set ?_ GE213.out | refine below_set ?_ GE256.out) | exact HB.out))) (fun k_ h_ => h_)) (below_size (by repeat (first | (with_reducible first | exact HB.out | apply below_alloc | apply pw_below_drewN | apply below_drew1 | refine below_set ?_ (IsS91.ge HI216.out) | refine below_set ?_ GE213.out | refine below_set ?_ GE256.out) | exact HB.out)))); have n5_ := Aside0.mk (blk_below (g := gb213) (o := .cells #[.string a3_0, .int .i64 a3_1, .int .i64 a3_2, .string a3_3] 34 (0, 0)) (by (with_reducible repeat (first | refine blk_drewN ?_ _ | refine blk_drew ?_ | refine blk_alloc ?_ _)); exact BK213.out) hb); have n6_ := Aside0.mk (IsS91.below (by repeat (first | (with_reducible first | exact HI216.out | apply IsS91.alloc | apply IsS91.drewN | apply IsS91.drew | apply IsS91.set_1 | refine IsS91.far ?_ NB216_213.out _ | refine IsS91.far ?_ NB216_256.out _) | exact HI216.out)) hb); have n7_ := Aside0.mk (blk_below (g := gb256) (o := .cells #[.string ((rd_T34 x12_1 x57_3).f0), .int .i64 ((rd_T34 x12_1 x57_3).f1), .int .i64 ((rd_T34 x12_1 x57_3).f2), .string ((rd_T34 x12_1 x57_3).f3)] 34 (0, 0)) (by (with_reducible repeat (first | refine blk_drewN ?_ _ | refine blk_drew ?_ | refine blk_alloc ?_ _)); exact BK256.out) hb); have n8_ := Aside0.mk (below_step (by repeat (first | (with_reducible first | exact HB.out | apply below_alloc | apply pw_below_drewN | apply below_drew1 | refine below_set ?_ (IsS91.ge HI216.out) | refine below_set ?_ GE213.out | refine below_set ?_ GE256.out) | exact HB.out)) hb); clear HO_12; clear HO_16; clear HO_49; clear HO_55; clear BK213; clear HI216; clear BK256; clear HB; have HO_12 := n0_; have HO_16 := n1_; have HO_49 := n2_; have HO_55 := n3_; have HO261 := n4_; have BK213 := n5_; have HI216 := n6_; have BK256 := n7_; have HB := n8_; clear n0_ n1_ n2_ n3_ n4_ n5_ n6_ n7_ n8_; clear hb ho55; obtain ⟨Ao56, co56, eo56⟩ := Kd.R_slice HO261.out; subst eo56))
                            go_loopg [66] k3 (fun kq v66 w' => ∃ (x66_4 : Int), v66 = .int .i64 x66_4 ∧ Aside0 (kauditlaw37_NamesInterprets.l3 kq a2 a4 x12_1 (rd_L4 y251 x51_2) y251 (y251.length : Int) x51_2 x12_1 (x12_1.length : Int) x57_3 y259 (y259.length : Int) x66_4 t214 t258 ((rd_T34 x12_1 x57_3).f0) ((rd_T34 x12_1 x57_3).f1) ((rd_T34 x12_1 x57_3).f2) ((rd_T34 x12_1 x57_3).f3) = some r) ∧ Aside0 (kq ≤ k3) ∧ Aside0 (Kd.R k34 34 w' w.heap.size (fun k_ => (w.heap.size ≤ k_) ∧ k_ ≠ gb213 ∧ k_ ≠ gb256) (.slice (some ad255) x12_1.length co44) x12_1) ∧ Aside0 (Kd.V k47 47 w' w.heap.size (fun k_ => (P1_ k_ ∨ w.heap.size ≤ k_) ∧ some k_ ≠ ((.slice (some ad255) x12_1.length co44) : Value).ownBlock ∧ some k_ ≠ ((.slice (some ad254) y251.length co40) : Value).ownBlock ∧ some k_ ≠ ((.slice (some ad255) x12_1.length co44) : Value).ownBlock ∧ some k_ ≠ ((.slice Ao56 y259.length co56) : Value).ownBlock ∧ k_ ≠ gb213 ∧ k_ ≠ gb256 ∧ k_ ≠ g216) (.slice A254_0 (rd_L4 y251 x51_2).length c254_0) (rd_L4 y251 x51_2)) ∧ Aside0 (Kd.N (Kd.slice 47 k47) 23 w' w.heap.size (fun k_ => (P1_ k_ ∨ w.heap.size ≤ k_) ∧ some k_ ≠ ((.slice (some ad255) x12_1.length co44) : Value).ownBlock ∧ some k_ ≠ ((.slice (some ad255) x12_1.length co44) : Value).ownBlock ∧ some k_ ≠ ((.slice Ao56 y259.length co56) : Value).ownBlock ∧ k_ ≠ gb213 ∧ k_ ≠ gb256 ∧ k_ ≠ g216) (.slice (some ad254) y251.length co40) y251) ∧ Aside0 (Kd.R k34 34 w' w.heap.size (fun k_ => (w.heap.size ≤ k_) ∧ k_ ≠ gb213 ∧ k_ ≠ gb256) (.slice (some ad255) x12_1.length co44) x12_1) ∧ Aside0 (Kd.R (Kd.int .i64) 3 w' w.heap.size (fun k_ => (w.heap.size ≤ k_)) (.slice Ao56 y259.length co56) y259) ∧ Aside0 (w'.heap[gb213]? = some (.cells #[.string a3_0, .int .i64 a3_1, .int .i64 a3_2, .string a3_3] 34 (0, 0))) ∧ Aside0 (w'.heap[gb256]? = some (.cells #[.string ((rd_T34 x12_1 x57_3).f0), .int .i64 ((rd_T34 x12_1 x57_3).f1), .int .i64 ((rd_T34 x12_1 x57_3).f2), .string ((rd_T34 x12_1 x57_3).f3)] 34 (0, 0))) ∧ Aside0 (IsS91 w w' g216 t214 t258) ∧ Aside0 (Below w.heap.size w w'))
                            case atStart => exact ⟨(0), (by first | rfl | (simp; done) | (simp [*]; done)), H', ⟨Nat.le_refl _⟩, ⟨by (with_reducible repeat (first | apply Kd.R_alloc | apply Kd.R_drewN | apply Kd.R_drew)); exact Kd.R_mono HO_12.out (fun _ hk => ⟨hk.1.1, ⟨hk.1.2, hk.2⟩⟩)⟩, ⟨by (with_reducible repeat (first | apply Kd.V_alloc | apply Kd.V_drewN | apply Kd.V_drew)); exact Kd.V_mono HO_16.out (fun _ hk => ⟨hk.1.1.1, ⟨hk.1.1.2.1, ⟨hk.1.1.2.2.1, ⟨hk.1.1.2.2.2.1, ⟨hk.2, ⟨hk.1.1.2.2.2.2.1, ⟨hk.1.2, hk.1.1.2.2.2.2.2⟩⟩⟩⟩⟩⟩⟩)⟩, ⟨by (with_reducible repeat (first | apply Kd.N_alloc | apply Kd.N_drewN | apply Kd.N_drew)); exact Kd.N_mono HO_49.out (fun _ hk => ⟨hk.1.1.1, ⟨hk.1.1.2.1, ⟨hk.1.1.2.2.1, ⟨hk.2, ⟨hk.1.1.2.2.2.1, ⟨hk.1.2, hk.1.1.2.2.2.2⟩⟩⟩⟩⟩⟩)⟩, ⟨by (with_reducible repeat (first | apply Kd.R_alloc | apply Kd.R_drewN | apply Kd.R_drew)); exact Kd.R_mono HO_55.out (fun _ hk => ⟨hk.1.1, ⟨hk.1.2, hk.2⟩⟩)⟩, ⟨by (with_reducible repeat (first | apply Kd.R_alloc | apply Kd.R_drewN | apply Kd.R_drew)); exact Kd.R_mono HO261.out (fun _ hk => hk.1)⟩, ⟨by (with_reducible repeat (first | refine blk_drewN ?_ _ | refine blk_drew ?_ | refine blk_alloc ?_ _)); exact BK213.out⟩, ⟨by (with_reducible repeat (first | refine blk_drewN ?_ _ | refine blk_drew ?_ | refine blk_alloc ?_ _)); exact BK256.out⟩, ⟨by repeat (first | (with_reducible first | exact HI216.out | apply IsS91.alloc | apply IsS91.drewN | apply IsS91.drew | apply IsS91.set_1 | refine IsS91.far ?_ NB216_213.out _ | refine IsS91.far ?_ NB216_256.out _) | exact HI216.out)⟩, ⟨by repeat (first | (with_reducible first | exact HB.out | apply below_alloc | apply pw_below_drewN | apply below_drew1 | refine below_set ?_ (IsS91.ge HI216.out) | refine below_set ?_ GE213.out | refine below_set ?_ GE256.out) | exact HB.out)⟩⟩
                            case round =>
                              clear H'
                              try clear c1
                              try clear c2
                              try clear p2
                              try clear q2
                              try clear hx2
                              try clear c4
                              try clear c5
                              try clear p6
                              try clear c9
                              try clear c13
                              try clear c14
                              try clear c16
                              try clear c16b0
                              try clear c17
                              try clear c17b0
                              try clear c18
                              try clear c18b0
                              try clear c19
                              try clear c20
                              try clear c21
                              try clear c22
                              try clear p22
                              try clear q22
                              try clear hx22
                              try clear c23
                              try clear c25
                              try clear p25
                              try clear q25
                              try clear hx25
                              try clear c41
                              try clear c41b0
                              try clear c42
                              try clear c42b0
                              try clear c43
                              try clear c43b0
                              try clear c45
                              try clear c45b0
                              try clear c46
                              try clear c46b0
                              try clear c47
                              try clear c47b0
                              try clear c50
                              try clear c51
                              try clear hcz10_0
                              try clear hcz10_1
                              try clear hcz10_2
                              try clear hcz10_3
                              try clear hcz52_0
                              try clear hcz52_1
                              try clear hcz52_2
                              try clear hcz52_3
                              try clear hfz10_0
                              try clear hfz10_1
                              try clear hfz10_2
                              try clear hfz10_3
                              try clear hfz52_0
                              try clear hfz52_1
                              try clear hfz52_2
                              try clear hfz52_3
                              try clear hx223_0
                              try clear hx254_0
                              try clear hx255_0
                              try clear hx255_1
                              try clear hx255_2
                              try clear hx255_3
                              try clear p2
                              try clear p22
                              try clear p223
                              try clear p25
                              try clear p254
                              try clear p255
                              try clear p6
                              try clear q2
                              try clear q22
                              try clear q223
                              try clear q25
                              try clear q254
                              try clear q255
                              obtain ⟨x66_4, rfl, HA, HK4, HO_12, HO_16, HO_49, HO_55, HO_64, BK213, BK256, HI216, HB⟩ := hrel
                              cases gk with
                              | zero => exact absurd HA.out (by simp [kauditlaw37_NamesInterprets.l3])
                              | succ k4 =>
                                have H := HA.out
                                clear HA
                                simp only [kauditlaw37_NamesInterprets.l3] at H
                                by_cases c57 : x66_4 < (y259.length : Int)
                                · rw [if_pos c57] at H
                                  have c57b0 : decide (x66_4 < (y259.length : Int)) = true := decide_eq_true c57
                                  clear c57
                                  by_cases c58 : 0 ≤ x66_4
                                  · rw [if_pos c58] at H
                                    have c58b0 : decide (0 ≤ x66_4) = true := decide_eq_true c58
                                    clear c58
                                    by_cases c59 : x66_4 < (y259.length : Int)
                                    · rw [if_pos c59] at H
                                      have c59b0 : decide (x66_4 < (y259.length : Int)) = true := decide_eq_true c59
                                      clear c59
                                      replace H := Option.bind_eq_some_iff.mp H
                                      obtain ⟨t263, A600, H⟩ := H
                                      replace H : ((kauditref37_Interpret.f k4 (rd_L4 y251 x51_2) (rd y259 x66_4) ((rd_T34 x12_1 x57_3).f0) ((rd_T34 x12_1 x57_3).f1) ((rd_T34 x12_1 x57_3).f2) ((rd_T34 x12_1 x57_3).f3)).bind fun t264 => (if t263.toList = t264.toList then ((names_Plain.f ((rd_T34 x12_1 x57_3).f0) ((rd_T34 x12_1 x57_3).f1) ((rd_T34 x12_1 x57_3).f2) ((rd_T34 x12_1 x57_3).f3)).bind fun t265 => ((kauditref37_Plain.f ((rd_T34 x12_1 x57_3).f0) ((rd_T34 x12_1 x57_3).f1) ((rd_T34 x12_1 x57_3).f2) ((rd_T34 x12_1 x57_3).f3)).bind fun t266 => (if t265.toList = t266.toList then (kauditlaw37_NamesInterprets.l3 k4 a2 a4 x12_1 (rd_L4 y251 x51_2) y251 (y251.length : Int) x51_2 x12_1 (x12_1.length : Int) x57_3 y259 (y259.length : Int) (wrap64 (x66_4 + 1)) t214 t258 ((rd_T34 x12_1 x57_3).f0) ((rd_T34 x12_1 x57_3).f1) ((rd_T34 x12_1 x57_3).f2) ((rd_T34 x12_1 x57_3).f3)) else (some false)))) else (some false))) = some r := H
                                      have A60 := Aside0.mk A600
                                      clear A600
                                      replace H := Option.bind_eq_some_iff.mp H
                                      obtain ⟨t264, A610, H⟩ := H
                                      replace H : (if t263.toList = t264.toList then ((names_Plain.f ((rd_T34 x12_1 x57_3).f0) ((rd_T34 x12_1 x57_3).f1) ((rd_T34 x12_1 x57_3).f2) ((rd_T34 x12_1 x57_3).f3)).bind fun t265 => ((kauditref37_Plain.f ((rd_T34 x12_1 x57_3).f0) ((rd_T34 x12_1 x57_3).f1) ((rd_T34 x12_1 x57_3).f2) ((rd_T34 x12_1 x57_3).f3)).bind fun t266 => (if t265.toList = t266.toList then (kauditlaw37_NamesInterprets.l3 k4 a2 a4 x12_1 (rd_L4 y251 x51_2) y251 (y251.length : Int) x51_2 x12_1 (x12_1.length : Int) x57_3 y259 (y259.length : Int) (wrap64 (x66_4 + 1)) t214 t258 ((rd_T34 x12_1 x57_3).f0) ((rd_T34 x12_1 x57_3).f1) ((rd_T34 x12_1 x57_3).f2) ((rd_T34 x12_1 x57_3).f3)) else (some false)))) else (some false)) = some r := H
                                      have A61 := Aside0.mk A610
                                      clear A610
                                      by_cases c62 : t263.toList = t264.toList
                                      · rw [if_pos c62] at H
                                        have c62b0 : (t263.toList == t264.toList) = true := beq_iff_eq.mpr c62
                                        have c62b1 : (t263.toList != t264.toList) = false := bne_eq_false_iff_eq.mpr c62
                                        clear c62
                                        replace H := Option.bind_eq_some_iff.mp H
                                        obtain ⟨t265, A630, H⟩ := H
                                        replace H : ((kauditref37_Plain.f ((rd_T34 x12_1 x57_3).f0) ((rd_T34 x12_1 x57_3).f1) ((rd_T34 x12_1 x57_3).f2) ((rd_T34 x12_1 x57_3).f3)).bind fun t266 => (if t265.toList = t266.toList then (kauditlaw37_NamesInterprets.l3 k4 a2 a4 x12_1 (rd_L4 y251 x51_2) y251 (y251.length : Int) x51_2 x12_1 (x12_1.length : Int) x57_3 y259 (y259.length : Int) (wrap64 (x66_4 + 1)) t214 t258 ((rd_T34 x12_1 x57_3).f0) ((rd_T34 x12_1 x57_3).f1) ((rd_T34 x12_1 x57_3).f2) ((rd_T34 x12_1 x57_3).f3)) else (some false))) = some r := H
                                        have A63 := Aside0.mk A630
                                        clear A630
                                        replace H := Option.bind_eq_some_iff.mp H
                                        obtain ⟨t266, A640, H⟩ := H
                                        replace H : (if t265.toList = t266.toList then (kauditlaw37_NamesInterprets.l3 k4 a2 a4 x12_1 (rd_L4 y251 x51_2) y251 (y251.length : Int) x51_2 x12_1 (x12_1.length : Int) x57_3 y259 (y259.length : Int) (wrap64 (x66_4 + 1)) t214 t258 ((rd_T34 x12_1 x57_3).f0) ((rd_T34 x12_1 x57_3).f1) ((rd_T34 x12_1 x57_3).f2) ((rd_T34 x12_1 x57_3).f3)) else (some false)) = some r := H
                                        have A64 := Aside0.mk A640
                                        clear A640
                                        by_cases c65 : t265.toList = t266.toList
                                        · rw [if_pos c65] at H
                                          have c65b0 : (t265.toList == t266.toList) = true := beq_iff_eq.mpr c65
                                          have c65b1 : (t265.toList != t266.toList) = false := bne_eq_false_iff_eq.mpr c65
                                          clear c65
                                          have H' := Aside0.mk H
                                          clear H
                                          have p262 : 0 ≤ (x66_4 : Int) := of_decide_eq_true (by first | (with_reducible assumption) | assumption)
                                          have q262 : x66_4 < (y259.length : Int) := of_decide_eq_true (by first | (with_reducible assumption) | assumption)
                                          obtain ⟨ad262, e262, hx262_0⟩ := Kd.at_int (Kd.R_reads' HO_64.out).2.2 x66_4 p262 q262
                                          cases e262
                                          replace p262 := eq_true p262
                                          replace q262 := eq_true q262
                                          try go_wp2
                                          have n0_ := Aside0.mk (Kd.R_drew HO_12.out)
                                          have n1_ := Aside0.mk (Kd.V_drew HO_16.out)
                                          have n2_ := Aside0.mk (Kd.N_drew HO_49.out)
                                          have n3_ := Aside0.mk (Kd.R_drew HO_55.out)
                                          have n4_ := Aside0.mk (Kd.R_drew HO_64.out)
                                          have n5_ := Aside0.mk (blk_drew BK213.out)
                                          have n6_ := Aside0.mk (blk_drew BK256.out)
                                          have n7_ := Aside0.mk (IsS91.drew HI216.out)
                                          have n8_ := Aside0.mk (below_drew1 HB.out)
                                          clear HO_12
                                          clear HO_16
                                          clear HO_49
                                          clear HO_55
                                          clear HO_64
                                          clear BK213
                                          clear BK256
                                          clear HI216
                                          clear HB
                                          have HO_12 := n0_
                                          have HO_16 := n1_
                                          have HO_49 := n2_
                                          have HO_55 := n3_
                                          have HO_64 := n4_
                                          have BK213 := n5_
                                          have BK256 := n6_
                                          have HI216 := n7_
                                          have HB := n8_
                                          clear n0_ n1_ n2_ n3_ n4_ n5_ n6_ n7_ n8_
                                          refine start_ (n := 16) (S := fun w' => w'.cell? ⟨gb256, 0, none⟩ = some (.string ((rd_T34 x12_1 x57_3).f0)) ∧ w'.cell? ⟨gb256, 1, none⟩ = some (.int .i64 ((rd_T34 x12_1 x57_3).f1)) ∧ w'.cell? ⟨gb256, 2, none⟩ = some (.int .i64 ((rd_T34 x12_1 x57_3).f2)) ∧ w'.cell? ⟨gb256, 3, none⟩ = some (.string ((rd_T34 x12_1 x57_3).f3))) (ds := []) #[false, false, false, false, false, false, false, false, false, false, false, false, false, false, false, false] (by kernel_rfl) rfl rfl ⟨(blk_cell BK256.out 0).trans rfl, (blk_cell BK256.out 1).trans rfl, (blk_cell BK256.out 2).trans rfl, (blk_cell BK256.out 3).trans rfl⟩ (fun hHeld => ?_); refine with_tabW kauditlaw37_NamesInterprets.tab17 kauditlaw37_NamesInterprets.bits17 (fun HT_ HW_ => ?_)
                                          generalize wr.drew = w66 at HO_12 HO_16 HO_49 HO_55 HO_64 BK213 BK256 HI216 HB hHeld ⊢
                                          refine pure_ (i := 0) (N := some 70) (v := ?_) (a' := ?_) #[true, false, false, false, false, false, false, false, false, false, false, false, false, false, false, false] rfl rfl (any_of HT_.out (by kernel_rfl)) (fun _ _ _ h => h) (Or.inl ⟨by rfl, ?_⟩) ?_ ?_
                                          rotate_left
                                          · intro w'
                                            go_simp
                                            with_reducible rfl
                                          rotate_left
                                          · simp only [Act.put, List.setIfInBounds_toArray, List.set_cons_zero, List.set_cons_succ, i64_w, i32_w]
                                            rfl
                                          refine pure_ (i := 1) (N := some 71) (v := ?_) (a' := ?_) #[true, true, false, false, false, false, false, false, false, false, false, false, false, false, false, false] rfl rfl (any_of HT_.out (by kernel_rfl)) (fun _ _ _ h => h) (Or.inl ⟨by rfl, ?_⟩) ?_ ?_
                                          rotate_left
                                          · intro w'
                                            go_simp
                                            with_reducible rfl
                                          rotate_left
                                          · simp only [Act.put, List.setIfInBounds_toArray, List.set_cons_zero, List.set_cons_succ, i64_w, i32_w]
                                            rfl
                                          refine pure_ (i := 4) (N := some 74) (v := ?_) (a' := ?_) #[true, true, false, false, true, false, false, false, false, false, false, false, false, false, false, false] rfl rfl (any_of HT_.out (by kernel_rfl)) (fun _ _ _ h => h) (Or.inl ⟨by rfl, ?_⟩) ?_ ?_
                                          rotate_left
                                          · intro w'
                                            go_simp
                                            with_reducible rfl
                                          rotate_left
                                          · simp only [Act.put, List.setIfInBounds_toArray, List.set_cons_zero, List.set_cons_succ, i64_w, i32_w]
                                            rfl
                                          refine pure_ (i := 5) (N := some 75) (v := ?_) (a' := ?_) #[true, true, false, false, true, true, false, false, false, false, false, false, false, false, false, false] rfl rfl (any_of HT_.out (by kernel_rfl)) (fun _ _ _ h => h) (Or.inl ⟨by rfl, ?_⟩) ?_ ?_
                                          rotate_left
                                          · intro w'
                                            go_simp
                                            with_reducible rfl
                                          rotate_left
                                          · simp only [Act.put, List.setIfInBounds_toArray, List.set_cons_zero, List.set_cons_succ, i64_w, i32_w]
                                            rfl
                                          refine take_ (i := 2) (N := some 72) (v := ?_) (a' := ?_) #[true, true, true, false, true, true, false, false, false, false, false, false, false, false, false, false] rfl rfl (take_ofW HT_.out HW_.out (by kernel_rfl)) (fun _ _ _ h => h) (Or.inl ⟨by rfl, ?_⟩) hHeld ?_ ?_
                                          rotate_left
                                          · rintro w' ⟨s0, s1, s2, s3⟩
                                            go_simp
                                            with_reducible rfl
                                          rotate_left
                                          · simp only [Act.put, List.setIfInBounds_toArray, List.set_cons_zero, List.set_cons_succ, i64_w, i32_w]
                                            rfl
                                          refine take_ (i := 6) (N := some 76) (v := ?_) (a' := ?_) #[true, true, true, false, true, true, true, false, false, false, false, false, false, false, false, false] rfl rfl (take_ofW HT_.out HW_.out (by kernel_rfl)) (fun _ _ _ h => h) (Or.inl ⟨by rfl, ?_⟩) hHeld ?_ ?_
                                          rotate_left
                                          · rintro w' ⟨s0, s1, s2, s3⟩
                                            go_simp
                                            with_reducible rfl
                                          rotate_left
                                          · simp only [Act.put, List.setIfInBounds_toArray, List.set_cons_zero, List.set_cons_succ, i64_w, i32_w]
                                            rfl
                                          refine one_ (i := 3) (N := some 73) #[true, true, true, true, true, true, true, false, false, false, false, false, false, false, false, false] rfl rfl (one_of HT_.out (by kernel_rfl)) (by decide) (fun K hK => ?_)
                                          refine goes_ Tryd.func23 (by kernel_rfl) rfl #[.slice A254_0 (rd_L4 y251 x51_2).length c254_0, .int .i64 (rd y259 x66_4), .agg #[.string ((rd_T34 x12_1 x57_3).f0), .int .i64 ((rd_T34 x12_1 x57_3).f1), .int .i64 ((rd_T34 x12_1 x57_3).f2), .string ((rd_T34 x12_1 x57_3).f3)]] (by rfl) rfl rfl (by (try simp only [List.map_toArray, List.map_cons, List.map_nil]); first | done | rfl | (simp only [List.length_drop, List.length_take]; rfl)) ?_
                                          with_reducible refine (names_Interpret.calls k4 _ _ (rd_L4 y251 x51_2) (rd y259 x66_4) ((rd_T34 x12_1 x57_3).f0) ((rd_T34 x12_1 x57_3).f1) ((rd_T34 x12_1 x57_3).f2) ((rd_T34 x12_1 x57_3).f3) t263 _ ?side1 ?side2 ?side3 A60.out).mono ?_
                                          (case side1 => repeat (first | exact (Kd.V_reads' HO_16.out).2.2 | (with_reducible refine Kd.C_alloc ?_ _) | (with_reducible refine Kd.C_drewN ?_ _) | (with_reducible refine Kd.C_drew ?_)))
                                          (case side2 => exact (Kd.V_reads' HO_16.out).2.1)
                                          (case side3 => refine GL.below HGL.out ?_; repeat (first | (with_reducible first | exact HB.out | apply below_alloc | apply pw_below_drewN | apply below_drew1 | refine below_set ?_ (IsS91.ge HI216.out) | refine below_set ?_ GE213.out | refine below_set ?_ GE256.out) | exact HB.out))
                                          rintro e w67 ⟨rfl, hb⟩
                                          refine ⟨_, rfl, ?_⟩
                                          have n0_ := Aside0.mk (Kd.R_below (by (with_reducible repeat (first | apply Kd.R_alloc | apply Kd.R_drewN | apply Kd.R_drew)); exact HO_12.out) hb)
                                          have n1_ := Aside0.mk (Kd.V_below (by (with_reducible repeat (first | apply Kd.V_alloc | apply Kd.V_drewN | apply Kd.V_drew)); exact HO_16.out) hb)
                                          have n2_ := Aside0.mk (Kd.N_below (by (with_reducible repeat (first | apply Kd.N_alloc | apply Kd.N_drewN | apply Kd.N_drew)); exact HO_49.out) hb)
                                          have n3_ := Aside0.mk (Kd.R_below (by (with_reducible repeat (first | apply Kd.R_alloc | apply Kd.R_drewN | apply Kd.R_drew)); exact HO_55.out) hb)
                                          have n4_ := Aside0.mk (Kd.R_below (by (with_reducible repeat (first | apply Kd.R_alloc | apply Kd.R_drewN | apply Kd.R_drew)); exact HO_64.out) hb)
                                          have n5_ := Aside0.mk (blk_below (g := gb213) (o := .cells #[.string a3_0, .int .i64 a3_1, .int .i64 a3_2, .string a3_3] 34 (0, 0)) (by (with_reducible repeat (first | refine blk_drewN ?_ _ | refine blk_drew ?_ | refine blk_alloc ?_ _)); exact BK213.out) hb)
                                          have n6_ := Aside0.mk (blk_below (g := gb256) (o := .cells #[.string ((rd_T34 x12_1 x57_3).f0), .int .i64 ((rd_T34 x12_1 x57_3).f1), .int .i64 ((rd_T34 x12_1 x57_3).f2), .string ((rd_T34 x12_1 x57_3).f3)] 34 (0, 0)) (by (with_reducible repeat (first | refine blk_drewN ?_ _ | refine blk_drew ?_ | refine blk_alloc ?_ _)); exact BK256.out) hb)
                                          have n7_ := Aside0.mk (IsS91.below (by repeat (first | (with_reducible first | exact HI216.out | apply IsS91.alloc | apply IsS91.drewN | apply IsS91.drew | apply IsS91.set_1 | refine IsS91.far ?_ NB216_213.out _ | refine IsS91.far ?_ NB216_256.out _) | exact HI216.out)) hb)
                                          have n8_ := Aside0.mk (below_step (by repeat (first | (with_reducible first | exact HB.out | apply below_alloc | apply pw_below_drewN | apply below_drew1 | refine below_set ?_ (IsS91.ge HI216.out) | refine below_set ?_ GE213.out | refine below_set ?_ GE256.out) | exact HB.out)) hb)
                                          clear HO_12
                                          clear HO_16
                                          clear HO_49
                                          clear HO_55
                                          clear HO_64
                                          clear BK213
                                          clear BK256
                                          clear HI216
                                          clear HB
                                          have HO_12 := n0_
                                          have HO_16 := n1_
                                          have HO_49 := n2_
                                          have HO_55 := n3_
                                          have HO_64 := n4_
                                          have BK213 := n5_
                                          have BK256 := n6_
                                          have HI216 := n7_
                                          have HB := n8_
                                          clear n0_ n1_ n2_ n3_ n4_ n5_ n6_ n7_ n8_
                                          (try clear hb)
                                          (try clear hb2)
                                          (try clear hk)
                                          (try clear hi)
                                          refine hK.out _ _ ⟨(blk_cell BK256.out 0).trans rfl, (blk_cell BK256.out 1).trans rfl, (blk_cell BK256.out 2).trans rfl, (blk_cell BK256.out 3).trans rfl⟩ (fun hHeld => ?_)
                                          clear hK K
                                          refine norm_ (a' := ?_) ?_ ?_
                                          rotate_left
                                          · show Act.put _ (some 73) _ = _
                                            simp only [Act.put, List.setIfInBounds_toArray, List.set_cons_zero, List.set_cons_succ, i64_w, i32_w]
                                            rfl
                                          refine one_ (i := 7) (N := some 77) #[true, true, true, true, true, true, true, true, false, false, false, false, false, false, false, false] rfl rfl (one_of HT_.out (by kernel_rfl)) (by decide) (fun K hK => ?_)
                                          refine goes_ Tryd.func24 (by kernel_rfl) rfl #[.slice A254_0 (rd_L4 y251 x51_2).length c254_0, .int .i64 (rd y259 x66_4), .agg #[.string ((rd_T34 x12_1 x57_3).f0), .int .i64 ((rd_T34 x12_1 x57_3).f1), .int .i64 ((rd_T34 x12_1 x57_3).f2), .string ((rd_T34 x12_1 x57_3).f3)]] (by rfl) rfl rfl (by (try simp only [List.map_toArray, List.map_cons, List.map_nil]); first | done | rfl | (simp only [List.length_drop, List.length_take]; rfl)) ?_
                                          with_reducible refine (kauditref37_Interpret.calls k4 _ _ (rd_L4 y251 x51_2) (rd y259 x66_4) ((rd_T34 x12_1 x57_3).f0) ((rd_T34 x12_1 x57_3).f1) ((rd_T34 x12_1 x57_3).f2) ((rd_T34 x12_1 x57_3).f3) t264 _ ?side1 ?side2 A61.out).mono ?_
                                          (case side1 => repeat (first | exact (Kd.V_reads' HO_16.out).2.2 | (with_reducible refine Kd.C_alloc ?_ _) | (with_reducible refine Kd.C_drewN ?_ _) | (with_reducible refine Kd.C_drew ?_)))
                                          (case side2 => exact (Kd.V_reads' HO_16.out).2.1)
                                          rintro e w68 ⟨rfl, hb⟩
                                          refine ⟨_, rfl, ?_⟩
                                          have n0_ := Aside0.mk (Kd.R_below (by (with_reducible repeat (first | apply Kd.R_alloc | apply Kd.R_drewN | apply Kd.R_drew)); exact HO_12.out) hb)
                                          have n1_ := Aside0.mk (Kd.V_below (by (with_reducible repeat (first | apply Kd.V_alloc | apply Kd.V_drewN | apply Kd.V_drew)); exact HO_16.out) hb)
                                          have n2_ := Aside0.mk (Kd.N_below (by (with_reducible repeat (first | apply Kd.N_alloc | apply Kd.N_drewN | apply Kd.N_drew)); exact HO_49.out) hb)
                                          have n3_ := Aside0.mk (Kd.R_below (by (with_reducible repeat (first | apply Kd.R_alloc | apply Kd.R_drewN | apply Kd.R_drew)); exact HO_55.out) hb)
                                          have n4_ := Aside0.mk (Kd.R_below (by (with_reducible repeat (first | apply Kd.R_alloc | apply Kd.R_drewN | apply Kd.R_drew)); exact HO_64.out) hb)
                                          have n5_ := Aside0.mk (blk_below (g := gb213) (o := .cells #[.string a3_0, .int .i64 a3_1, .int .i64 a3_2, .string a3_3] 34 (0, 0)) (by (with_reducible repeat (first | refine blk_drewN ?_ _ | refine blk_drew ?_ | refine blk_alloc ?_ _)); exact BK213.out) hb)
                                          have n6_ := Aside0.mk (blk_below (g := gb256) (o := .cells #[.string ((rd_T34 x12_1 x57_3).f0), .int .i64 ((rd_T34 x12_1 x57_3).f1), .int .i64 ((rd_T34 x12_1 x57_3).f2), .string ((rd_T34 x12_1 x57_3).f3)] 34 (0, 0)) (by (with_reducible repeat (first | refine blk_drewN ?_ _ | refine blk_drew ?_ | refine blk_alloc ?_ _)); exact BK256.out) hb)
                                          have n7_ := Aside0.mk (IsS91.below (by repeat (first | (with_reducible first | exact HI216.out | apply IsS91.alloc | apply IsS91.drewN | apply IsS91.drew | apply IsS91.set_1 | refine IsS91.far ?_ NB216_213.out _ | refine IsS91.far ?_ NB216_256.out _) | exact HI216.out)) hb)
                                          have n8_ := Aside0.mk (below_step (by repeat (first | (with_reducible first | exact HB.out | apply below_alloc | apply pw_below_drewN | apply below_drew1 | refine below_set ?_ (IsS91.ge HI216.out) | refine below_set ?_ GE213.out | refine below_set ?_ GE256.out) | exact HB.out)) hb)
                                          clear HO_12
                                          clear HO_16
                                          clear HO_49
                                          clear HO_55
                                          clear HO_64
                                          clear BK213
                                          clear BK256
                                          clear HI216
                                          clear HB
                                          have HO_12 := n0_
                                          have HO_16 := n1_
                                          have HO_49 := n2_
                                          have HO_55 := n3_
                                          have HO_64 := n4_
                                          have BK213 := n5_
                                          have BK256 := n6_
                                          have HI216 := n7_
                                          have HB := n8_
                                          clear n0_ n1_ n2_ n3_ n4_ n5_ n6_ n7_ n8_
                                          (try clear hb)
                                          (try clear hb2)
                                          (try clear hk)
                                          (try clear hi)
                                          refine hK.out _ _ ⟨(blk_cell BK256.out 0).trans rfl, (blk_cell BK256.out 1).trans rfl, (blk_cell BK256.out 2).trans rfl, (blk_cell BK256.out 3).trans rfl⟩ (fun hHeld => ?_)
                                          clear hK K
                                          refine norm_ (a' := ?_) ?_ ?_
                                          rotate_left
                                          · show Act.put _ (some 77) _ = _
                                            simp only [Act.put, List.setIfInBounds_toArray, List.set_cons_zero, List.set_cons_succ, i64_w, i32_w]
                                            rfl
                                          refine pure_ (i := 8) (N := some 78) (v := ?_) (a' := ?_) #[true, true, true, true, true, true, true, true, true, false, false, false, false, false, false, false] rfl rfl (any_of HT_.out (by kernel_rfl)) (fun _ _ _ h => h) (Or.inl ⟨by rfl, ?_⟩) ?_ ?_
                                          rotate_left
                                          · intro w'
                                            go_simp
                                            with_reducible rfl
                                          rotate_left
                                          · simp only [Act.put, List.setIfInBounds_toArray, List.set_cons_zero, List.set_cons_succ, i64_w, i32_w]
                                            rfl
                                          refine pure_ (i := 9) (N := some 79) (v := ?_) (a' := ?_) #[true, true, true, true, true, true, true, true, true, true, false, false, false, false, false, false] rfl rfl (any_of HT_.out (by kernel_rfl)) (fun _ _ _ h => h) (Or.inl ⟨by rfl, ?_⟩) ?_ ?_
                                          rotate_left
                                          · intro w'
                                            go_simp
                                            with_reducible rfl
                                          rotate_left
                                          · simp only [Act.put, List.setIfInBounds_toArray, List.set_cons_zero, List.set_cons_succ, i64_w, i32_w]
                                            rfl
                                          refine take_ (i := 10) (N := some 80) (v := ?_) (a' := ?_) #[true, true, true, true, true, true, true, true, true, true, true, false, false, false, false, false] rfl rfl (take_ofW HT_.out HW_.out (by kernel_rfl)) (fun _ _ _ h => h) (Or.inl ⟨by rfl, ?_⟩) hHeld ?_ ?_
                                          rotate_left
                                          · rintro w' ⟨s0, s1, s2, s3⟩
                                            go_simp
                                            with_reducible rfl
                                          rotate_left
                                          · simp only [Act.put, List.setIfInBounds_toArray, List.set_cons_zero, List.set_cons_succ, i64_w, i32_w]
                                            rfl
                                          refine take_ (i := 12) (N := some 82) (v := ?_) (a' := ?_) #[true, true, true, true, true, true, true, true, true, true, true, false, true, false, false, false] rfl rfl (take_ofW HT_.out HW_.out (by kernel_rfl)) (fun _ _ _ h => h) (Or.inl ⟨by rfl, ?_⟩) hHeld ?_ ?_
                                          rotate_left
                                          · rintro w' ⟨s0, s1, s2, s3⟩
                                            go_simp
                                            with_reducible rfl
                                          rotate_left
                                          · simp only [Act.put, List.setIfInBounds_toArray, List.set_cons_zero, List.set_cons_succ, i64_w, i32_w]
                                            rfl
                                          refine one_ (i := 11) (N := some 81) #[true, true, true, true, true, true, true, true, true, true, true, true, true, false, false, false] rfl rfl (one_of HT_.out (by kernel_rfl)) (by decide) (fun K hK => ?_)
                                          refine goes_ Tryd.func25 (by kernel_rfl) rfl #[.agg #[.string ((rd_T34 x12_1 x57_3).f0), .int .i64 ((rd_T34 x12_1 x57_3).f1), .int .i64 ((rd_T34 x12_1 x57_3).f2), .string ((rd_T34 x12_1 x57_3).f3)]] (by rfl) rfl rfl (by (try simp only [List.map_toArray, List.map_cons, List.map_nil]); first | done | rfl | (simp only [List.length_drop, List.length_take]; rfl)) ?_
                                          with_reducible refine (names_Plain.calls ((rd_T34 x12_1 x57_3).f0) ((rd_T34 x12_1 x57_3).f1) ((rd_T34 x12_1 x57_3).f2) ((rd_T34 x12_1 x57_3).f3) t265 _ ?side1 A63.out).mono ?_
                                          (case side1 => refine GL.below HGL.out ?_; repeat (first | (with_reducible first | exact HB.out | apply below_alloc | apply pw_below_drewN | apply below_drew1 | refine below_set ?_ (IsS91.ge HI216.out) | refine below_set ?_ GE213.out | refine below_set ?_ GE256.out) | exact HB.out))
                                          rintro e w69 ⟨rfl, hb⟩
                                          refine ⟨_, rfl, ?_⟩
                                          have n0_ := Aside0.mk (Kd.R_below (by (with_reducible repeat (first | apply Kd.R_alloc | apply Kd.R_drewN | apply Kd.R_drew)); exact HO_12.out) hb)
                                          have n1_ := Aside0.mk (Kd.V_below (by (with_reducible repeat (first | apply Kd.V_alloc | apply Kd.V_drewN | apply Kd.V_drew)); exact HO_16.out) hb)
                                          have n2_ := Aside0.mk (Kd.N_below (by (with_reducible repeat (first | apply Kd.N_alloc | apply Kd.N_drewN | apply Kd.N_drew)); exact HO_49.out) hb)
                                          have n3_ := Aside0.mk (Kd.R_below (by (with_reducible repeat (first | apply Kd.R_alloc | apply Kd.R_drewN | apply Kd.R_drew)); exact HO_55.out) hb)
                                          have n4_ := Aside0.mk (Kd.R_below (by (with_reducible repeat (first | apply Kd.R_alloc | apply Kd.R_drewN | apply Kd.R_drew)); exact HO_64.out) hb)
                                          have n5_ := Aside0.mk (blk_below (g := gb213) (o := .cells #[.string a3_0, .int .i64 a3_1, .int .i64 a3_2, .string a3_3] 34 (0, 0)) (by (with_reducible repeat (first | refine blk_drewN ?_ _ | refine blk_drew ?_ | refine blk_alloc ?_ _)); exact BK213.out) hb)
                                          have n6_ := Aside0.mk (blk_below (g := gb256) (o := .cells #[.string ((rd_T34 x12_1 x57_3).f0), .int .i64 ((rd_T34 x12_1 x57_3).f1), .int .i64 ((rd_T34 x12_1 x57_3).f2), .string ((rd_T34 x12_1 x57_3).f3)] 34 (0, 0)) (by (with_reducible repeat (first | refine blk_drewN ?_ _ | refine blk_drew ?_ | refine blk_alloc ?_ _)); exact BK256.out) hb)
                                          have n7_ := Aside0.mk (IsS91.below (by repeat (first | (with_reducible first | exact HI216.out | apply IsS91.alloc | apply IsS91.drewN | apply IsS91.drew | apply IsS91.set_1 | refine IsS91.far ?_ NB216_213.out _ | refine IsS91.far ?_ NB216_256.out _) | exact HI216.out)) hb)
                                          have n8_ := Aside0.mk (below_step (by repeat (first | (with_reducible first | exact HB.out | apply below_alloc | apply pw_below_drewN | apply below_drew1 | refine below_set ?_ (IsS91.ge HI216.out) | refine below_set ?_ GE213.out | refine below_set ?_ GE256.out) | exact HB.out)) hb)
                                          clear HO_12
                                          clear HO_16
                                          clear HO_49
                                          clear HO_55
                                          clear HO_64
                                          clear BK213
                                          clear BK256
                                          clear HI216
                                          clear HB
                                          have HO_12 := n0_
                                          have HO_16 := n1_
                                          have HO_49 := n2_
                                          have HO_55 := n3_
                                          have HO_64 := n4_
                                          have BK213 := n5_
                                          have BK256 := n6_
                                          have HI216 := n7_
                                          have HB := n8_
                                          clear n0_ n1_ n2_ n3_ n4_ n5_ n6_ n7_ n8_
                                          (try clear hb)
                                          (try clear hb2)
                                          (try clear hk)
                                          (try clear hi)
                                          refine hK.out _ _ ⟨(blk_cell BK256.out 0).trans rfl, (blk_cell BK256.out 1).trans rfl, (blk_cell BK256.out 2).trans rfl, (blk_cell BK256.out 3).trans rfl⟩ (fun hHeld => ?_)
                                          clear hK K
                                          refine norm_ (a' := ?_) ?_ ?_
                                          rotate_left
                                          · show Act.put _ (some 81) _ = _
                                            simp only [Act.put, List.setIfInBounds_toArray, List.set_cons_zero, List.set_cons_succ, i64_w, i32_w]
                                            rfl
                                          refine one_ (i := 13) (N := some 83) #[true, true, true, true, true, true, true, true, true, true, true, true, true, true, false, false] rfl rfl (one_of HT_.out (by kernel_rfl)) (by decide) (fun K hK => ?_)
                                          refine goes_ Tryd.func26 (by kernel_rfl) rfl #[.agg #[.string ((rd_T34 x12_1 x57_3).f0), .int .i64 ((rd_T34 x12_1 x57_3).f1), .int .i64 ((rd_T34 x12_1 x57_3).f2), .string ((rd_T34 x12_1 x57_3).f3)]] (by rfl) rfl rfl (by (try simp only [List.map_toArray, List.map_cons, List.map_nil]); first | done | rfl | (simp only [List.length_drop, List.length_take]; rfl)) ?_
                                          with_reducible refine (kauditref37_Plain.calls ((rd_T34 x12_1 x57_3).f0) ((rd_T34 x12_1 x57_3).f1) ((rd_T34 x12_1 x57_3).f2) ((rd_T34 x12_1 x57_3).f3) t266 _ A64.out).mono ?_
                                          rintro e w70 ⟨rfl, hb⟩
                                          refine ⟨_, rfl, ?_⟩
                                          have n0_ := Aside0.mk (Kd.R_below (by (with_reducible repeat (first | apply Kd.R_alloc | apply Kd.R_drewN | apply Kd.R_drew)); exact HO_12.out) hb)
                                          have n1_ := Aside0.mk (Kd.V_below (by (with_reducible repeat (first | apply Kd.V_alloc | apply Kd.V_drewN | apply Kd.V_drew)); exact HO_16.out) hb)
                                          have n2_ := Aside0.mk (Kd.N_below (by (with_reducible repeat (first | apply Kd.N_alloc | apply Kd.N_drewN | apply Kd.N_drew)); exact HO_49.out) hb)
                                          have n3_ := Aside0.mk (Kd.R_below (by (with_reducible repeat (first | apply Kd.R_alloc | apply Kd.R_drewN | apply Kd.R_drew)); exact HO_55.out) hb)
                                          have n4_ := Aside0.mk (Kd.R_below (by (with_reducible repeat (first | apply Kd.R_alloc | apply Kd.R_drewN | apply Kd.R_drew)); exact HO_64.out) hb)
                                          have n5_ := Aside0.mk (blk_below (g := gb213) (o := .cells #[.string a3_0, .int .i64 a3_1, .int .i64 a3_2, .string a3_3] 34 (0, 0)) (by (with_reducible repeat (first | refine blk_drewN ?_ _ | refine blk_drew ?_ | refine blk_alloc ?_ _)); exact BK213.out) hb)
                                          have n6_ := Aside0.mk (blk_below (g := gb256) (o := .cells #[.string ((rd_T34 x12_1 x57_3).f0), .int .i64 ((rd_T34 x12_1 x57_3).f1), .int .i64 ((rd_T34 x12_1 x57_3).f2), .string ((rd_T34 x12_1 x57_3).f3)] 34 (0, 0)) (by (with_reducible repeat (first | refine blk_drewN ?_ _ | refine blk_drew ?_ | refine blk_alloc ?_ _)); exact BK256.out) hb)
                                          have n7_ := Aside0.mk (IsS91.below (by repeat (first | (with_reducible first | exact HI216.out | apply IsS91.alloc | apply IsS91.drewN | apply IsS91.drew | apply IsS91.set_1 | refine IsS91.far ?_ NB216_213.out _ | refine IsS91.far ?_ NB216_256.out _) | exact HI216.out)) hb)
                                          have n8_ := Aside0.mk (below_step (by repeat (first | (with_reducible first | exact HB.out | apply below_alloc | apply pw_below_drewN | apply below_drew1 | refine below_set ?_ (IsS91.ge HI216.out) | refine below_set ?_ GE213.out | refine below_set ?_ GE256.out) | exact HB.out)) hb)
                                          clear HO_12
                                          clear HO_16
                                          clear HO_49
                                          clear HO_55
                                          clear HO_64
                                          clear BK213
                                          clear BK256
                                          clear HI216
                                          clear HB
                                          have HO_12 := n0_
                                          have HO_16 := n1_
                                          have HO_49 := n2_
                                          have HO_55 := n3_
                                          have HO_64 := n4_
                                          have BK213 := n5_
                                          have BK256 := n6_
                                          have HI216 := n7_
                                          have HB := n8_
                                          clear n0_ n1_ n2_ n3_ n4_ n5_ n6_ n7_ n8_
                                          (try clear hb)
                                          (try clear hb2)
                                          (try clear hk)
                                          (try clear hi)
                                          refine hK.out _ _ ⟨(blk_cell BK256.out 0).trans rfl, (blk_cell BK256.out 1).trans rfl, (blk_cell BK256.out 2).trans rfl, (blk_cell BK256.out 3).trans rfl⟩ (fun hHeld => ?_)
                                          clear hK K
                                          refine norm_ (a' := ?_) ?_ ?_
                                          rotate_left
                                          · show Act.put _ (some 83) _ = _
                                            simp only [Act.put, List.setIfInBounds_toArray, List.set_cons_zero, List.set_cons_succ, i64_w, i32_w]
                                            rfl
                                          refine pure_ (i := 14) (N := some 84) (v := ?_) (a' := ?_) #[true, true, true, true, true, true, true, true, true, true, true, true, true, true, true, false] rfl rfl (any_of HT_.out (by kernel_rfl)) (fun _ _ _ h => h) (Or.inl ⟨by rfl, ?_⟩) ?_ ?_
                                          rotate_left
                                          · intro w'
                                            go_simp
                                            with_reducible rfl
                                          rotate_left
                                          · simp only [Act.put, List.setIfInBounds_toArray, List.set_cons_zero, List.set_cons_succ, i64_w, i32_w]
                                            rfl
                                          refine pure_ (i := 15) (N := some 85) (v := ?_) (a' := ?_) #[true, true, true, true, true, true, true, true, true, true, true, true, true, true, true, true] rfl rfl (any_of HT_.out (by kernel_rfl)) (fun _ _ _ h => h) (Or.inl ⟨by rfl, ?_⟩) ?_ ?_
                                          rotate_left
                                          · intro w'
                                            go_simp
                                            with_reducible rfl
                                          rotate_left
                                          · simp only [Act.put, List.setIfInBounds_toArray, List.set_cons_zero, List.set_cons_succ, i64_w, i32_w]
                                            rfl
                                          refine done_ (done_of HT_.out (by kernel_rfl)) ?_
                                          try go_wp2
                                          go_roundg k4
                                          case measure => have := HK1.out; have := HK2.out; have := HK3.out; have := HK4.out; omega
                                          case rel => exact ⟨(wrap64 (x66_4 + 1)), (by first | rfl | (simp; done) | (simp [*]; done)), H', ⟨by have := HK1.out; have := HK2.out; have := HK3.out; have := HK4.out; omega⟩, ⟨by (with_reducible repeat (first | apply Kd.R_alloc | apply Kd.R_drewN | apply Kd.R_drew)); exact HO_12.out⟩, ⟨by (with_reducible repeat (first | apply Kd.V_alloc | apply Kd.V_drewN | apply Kd.V_drew)); exact HO_16.out⟩, ⟨by (with_reducible repeat (first | apply Kd.N_alloc | apply Kd.N_drewN | apply Kd.N_drew)); exact HO_49.out⟩, ⟨by (with_reducible repeat (first | apply Kd.R_alloc | apply Kd.R_drewN | apply Kd.R_drew)); exact HO_55.out⟩, ⟨by (with_reducible repeat (first | apply Kd.R_alloc | apply Kd.R_drewN | apply Kd.R_drew)); exact HO_64.out⟩, ⟨by (with_reducible repeat (first | refine blk_drewN ?_ _ | refine blk_drew ?_ | refine blk_alloc ?_ _)); exact BK213.out⟩, ⟨by (with_reducible repeat (first | refine blk_drewN ?_ _ | refine blk_drew ?_ | refine blk_alloc ?_ _)); exact BK256.out⟩, ⟨by repeat (first | (with_reducible first | exact HI216.out | apply IsS91.alloc | apply IsS91.drewN | apply IsS91.drew | apply IsS91.set_1 | refine IsS91.far ?_ NB216_213.out _ | refine IsS91.far ?_ NB216_256.out _) | exact HI216.out)⟩, ⟨by repeat (first | (with_reducible first | exact HB.out | apply below_alloc | apply pw_below_drewN | apply below_drew1 | refine below_set ?_ (IsS91.ge HI216.out) | refine below_set ?_ GE213.out | refine below_set ?_ GE256.out) | exact HB.out)⟩⟩
                                        · rw [if_neg c65] at H
                                          have c65b0 : (t265.toList == t266.toList) = false := beq_eq_false_iff_ne.mpr c65
                                          have c65b1 : (t265.toList != t266.toList) = true := bne_iff_ne.mpr c65
                                          obtain rfl := Option.some.inj H
                                          have p262 : 0 ≤ (x66_4 : Int) := of_decide_eq_true (by first | (with_reducible assumption) | assumption)
                                          have q262 : x66_4 < (y259.length : Int) := of_decide_eq_true (by first | (with_reducible assumption) | assumption)
                                          obtain ⟨ad262, e262, hx262_0⟩ := Kd.at_int (Kd.R_reads' HO_64.out).2.2 x66_4 p262 q262
                                          cases e262
                                          replace p262 := eq_true p262
                                          replace q262 := eq_true q262
                                          try go_wp2
                                          have n0_ := Aside0.mk (Kd.R_drew HO_12.out)
                                          have n1_ := Aside0.mk (Kd.V_drew HO_16.out)
                                          have n2_ := Aside0.mk (Kd.N_drew HO_49.out)
                                          have n3_ := Aside0.mk (Kd.R_drew HO_55.out)
                                          have n4_ := Aside0.mk (Kd.R_drew HO_64.out)
                                          have n5_ := Aside0.mk (blk_drew BK213.out)
                                          have n6_ := Aside0.mk (blk_drew BK256.out)
                                          have n7_ := Aside0.mk (IsS91.drew HI216.out)
                                          have n8_ := Aside0.mk (below_drew1 HB.out)
                                          clear HO_12
                                          clear HO_16
                                          clear HO_49
                                          clear HO_55
                                          clear HO_64
                                          clear BK213
                                          clear BK256
                                          clear HI216
                                          clear HB
                                          have HO_12 := n0_
                                          have HO_16 := n1_
                                          have HO_49 := n2_
                                          have HO_55 := n3_
                                          have HO_64 := n4_
                                          have BK213 := n5_
                                          have BK256 := n6_
                                          have HI216 := n7_
                                          have HB := n8_
                                          clear n0_ n1_ n2_ n3_ n4_ n5_ n6_ n7_ n8_
                                          refine start_ (n := 16) (S := fun w' => w'.cell? ⟨gb256, 0, none⟩ = some (.string ((rd_T34 x12_1 x57_3).f0)) ∧ w'.cell? ⟨gb256, 1, none⟩ = some (.int .i64 ((rd_T34 x12_1 x57_3).f1)) ∧ w'.cell? ⟨gb256, 2, none⟩ = some (.int .i64 ((rd_T34 x12_1 x57_3).f2)) ∧ w'.cell? ⟨gb256, 3, none⟩ = some (.string ((rd_T34 x12_1 x57_3).f3))) (ds := []) #[false, false, false, false, false, false, false, false, false, false, false, false, false, false, false, false] (by kernel_rfl) rfl rfl ⟨(blk_cell BK256.out 0).trans rfl, (blk_cell BK256.out 1).trans rfl, (blk_cell BK256.out 2).trans rfl, (blk_cell BK256.out 3).trans rfl⟩ (fun hHeld => ?_); refine with_tabW kauditlaw37_NamesInterprets.tab17 kauditlaw37_NamesInterprets.bits17 (fun HT_ HW_ => ?_)
                                          generalize wr.drew = w71 at HO_12 HO_16 HO_49 HO_55 HO_64 BK213 BK256 HI216 HB hHeld ⊢
                                          refine pure_ (i := 0) (N := some 70) (v := ?_) (a' := ?_) #[true, false, false, false, false, false, false, false, false, false, false, false, false, false, false, false] rfl rfl (any_of HT_.out (by kernel_rfl)) (fun _ _ _ h => h) (Or.inl ⟨by rfl, ?_⟩) ?_ ?_
                                          rotate_left
                                          · intro w'
                                            go_simp
                                            with_reducible rfl
                                          rotate_left
                                          · simp only [Act.put, List.setIfInBounds_toArray, List.set_cons_zero, List.set_cons_succ, i64_w, i32_w]
                                            rfl
                                          refine pure_ (i := 1) (N := some 71) (v := ?_) (a' := ?_) #[true, true, false, false, false, false, false, false, false, false, false, false, false, false, false, false] rfl rfl (any_of HT_.out (by kernel_rfl)) (fun _ _ _ h => h) (Or.inl ⟨by rfl, ?_⟩) ?_ ?_
                                          rotate_left
                                          · intro w'
                                            go_simp
                                            with_reducible rfl
                                          rotate_left
                                          · simp only [Act.put, List.setIfInBounds_toArray, List.set_cons_zero, List.set_cons_succ, i64_w, i32_w]
                                            rfl
                                          refine pure_ (i := 4) (N := some 74) (v := ?_) (a' := ?_) #[true, true, false, false, true, false, false, false, false, false, false, false, false, false, false, false] rfl rfl (any_of HT_.out (by kernel_rfl)) (fun _ _ _ h => h) (Or.inl ⟨by rfl, ?_⟩) ?_ ?_
                                          rotate_left
                                          · intro w'
                                            go_simp
                                            with_reducible rfl
                                          rotate_left
                                          · simp only [Act.put, List.setIfInBounds_toArray, List.set_cons_zero, List.set_cons_succ, i64_w, i32_w]
                                            rfl
                                          refine pure_ (i := 5) (N := some 75) (v := ?_) (a' := ?_) #[true, true, false, false, true, true, false, false, false, false, false, false, false, false, false, false] rfl rfl (any_of HT_.out (by kernel_rfl)) (fun _ _ _ h => h) (Or.inl ⟨by rfl, ?_⟩) ?_ ?_
                                          rotate_left
                                          · intro w'
                                            go_simp
                                            with_reducible rfl
                                          rotate_left
                                          · simp only [Act.put, List.setIfInBounds_toArray, List.set_cons_zero, List.set_cons_succ, i64_w, i32_w]
                                            rfl
                                          refine take_ (i := 2) (N := some 72) (v := ?_) (a' := ?_) #[true, true, true, false, true, true, false, false, false, false, false, false, false, false, false, false] rfl rfl (take_ofW HT_.out HW_.out (by kernel_rfl)) (fun _ _ _ h => h) (Or.inl ⟨by rfl, ?_⟩) hHeld ?_ ?_
                                          rotate_left
                                          · rintro w' ⟨s0, s1, s2, s3⟩
                                            go_simp
                                            with_reducible rfl
                                          rotate_left
                                          · simp only [Act.put, List.setIfInBounds_toArray, List.set_cons_zero, List.set_cons_succ, i64_w, i32_w]
                                            rfl
                                          refine take_ (i := 6) (N := some 76) (v := ?_) (a' := ?_) #[true, true, true, false, true, true, true, false, false, false, false, false, false, false, false, false] rfl rfl (take_ofW HT_.out HW_.out (by kernel_rfl)) (fun _ _ _ h => h) (Or.inl ⟨by rfl, ?_⟩) hHeld ?_ ?_
                                          rotate_left
                                          · rintro w' ⟨s0, s1, s2, s3⟩
                                            go_simp
                                            with_reducible rfl
                                          rotate_left
                                          · simp only [Act.put, List.setIfInBounds_toArray, List.set_cons_zero, List.set_cons_succ, i64_w, i32_w]
                                            rfl
                                          refine one_ (i := 3) (N := some 73) #[true, true, true, true, true, true, true, false, false, false, false, false, false, false, false, false] rfl rfl (one_of HT_.out (by kernel_rfl)) (by decide) (fun K hK => ?_)
                                          refine goes_ Tryd.func23 (by kernel_rfl) rfl #[.slice A254_0 (rd_L4 y251 x51_2).length c254_0, .int .i64 (rd y259 x66_4), .agg #[.string ((rd_T34 x12_1 x57_3).f0), .int .i64 ((rd_T34 x12_1 x57_3).f1), .int .i64 ((rd_T34 x12_1 x57_3).f2), .string ((rd_T34 x12_1 x57_3).f3)]] (by rfl) rfl rfl (by (try simp only [List.map_toArray, List.map_cons, List.map_nil]); first | done | rfl | (simp only [List.length_drop, List.length_take]; rfl)) ?_
                                          with_reducible refine (names_Interpret.calls k4 _ _ (rd_L4 y251 x51_2) (rd y259 x66_4) ((rd_T34 x12_1 x57_3).f0) ((rd_T34 x12_1 x57_3).f1) ((rd_T34 x12_1 x57_3).f2) ((rd_T34 x12_1 x57_3).f3) t263 _ ?side1 ?side2 ?side3 A60.out).mono ?_
                                          (case side1 => repeat (first | exact (Kd.V_reads' HO_16.out).2.2 | (with_reducible refine Kd.C_alloc ?_ _) | (with_reducible refine Kd.C_drewN ?_ _) | (with_reducible refine Kd.C_drew ?_)))
                                          (case side2 => exact (Kd.V_reads' HO_16.out).2.1)
                                          (case side3 => refine GL.below HGL.out ?_; repeat (first | (with_reducible first | exact HB.out | apply below_alloc | apply pw_below_drewN | apply below_drew1 | refine below_set ?_ (IsS91.ge HI216.out) | refine below_set ?_ GE213.out | refine below_set ?_ GE256.out) | exact HB.out))
                                          rintro e w72 ⟨rfl, hb⟩
                                          refine ⟨_, rfl, ?_⟩
                                          have n0_ := Aside0.mk (Kd.R_below (by (with_reducible repeat (first | apply Kd.R_alloc | apply Kd.R_drewN | apply Kd.R_drew)); exact HO_12.out) hb)
                                          have n1_ := Aside0.mk (Kd.V_below (by (with_reducible repeat (first | apply Kd.V_alloc | apply Kd.V_drewN | apply Kd.V_drew)); exact HO_16.out) hb)
                                          have n2_ := Aside0.mk (Kd.N_below (by (with_reducible repeat (first | apply Kd.N_alloc | apply Kd.N_drewN | apply Kd.N_drew)); exact HO_49.out) hb)
                                          have n3_ := Aside0.mk (Kd.R_below (by (with_reducible repeat (first | apply Kd.R_alloc | apply Kd.R_drewN | apply Kd.R_drew)); exact HO_55.out) hb)
                                          have n4_ := Aside0.mk (Kd.R_below (by (with_reducible repeat (first | apply Kd.R_alloc | apply Kd.R_drewN | apply Kd.R_drew)); exact HO_64.out) hb)
                                          have n5_ := Aside0.mk (blk_below (g := gb213) (o := .cells #[.string a3_0, .int .i64 a3_1, .int .i64 a3_2, .string a3_3] 34 (0, 0)) (by (with_reducible repeat (first | refine blk_drewN ?_ _ | refine blk_drew ?_ | refine blk_alloc ?_ _)); exact BK213.out) hb)
                                          have n6_ := Aside0.mk (blk_below (g := gb256) (o := .cells #[.string ((rd_T34 x12_1 x57_3).f0), .int .i64 ((rd_T34 x12_1 x57_3).f1), .int .i64 ((rd_T34 x12_1 x57_3).f2), .string ((rd_T34 x12_1 x57_3).f3)] 34 (0, 0)) (by (with_reducible repeat (first | refine blk_drewN ?_ _ | refine blk_drew ?_ | refine blk_alloc ?_ _)); exact BK256.out) hb)
                                          have n7_ := Aside0.mk (IsS91.below (by repeat (first | (with_reducible first | exact HI216.out | apply IsS91.alloc | apply IsS91.drewN | apply IsS91.drew | apply IsS91.set_1 | refine IsS91.far ?_ NB216_213.out _ | refine IsS91.far ?_ NB216_256.out _) | exact HI216.out)) hb)
                                          have n8_ := Aside0.mk (below_step (by repeat (first | (with_reducible first | exact HB.out | apply below_alloc | apply pw_below_drewN | apply below_drew1 | refine below_set ?_ (IsS91.ge HI216.out) | refine below_set ?_ GE213.out | refine below_set ?_ GE256.out) | exact HB.out)) hb)
                                          clear HO_12
                                          clear HO_16
                                          clear HO_49
                                          clear HO_55
                                          clear HO_64
                                          clear BK213
                                          clear BK256
                                          clear HI216
                                          clear HB
                                          have HO_12 := n0_
                                          have HO_16 := n1_
                                          have HO_49 := n2_
                                          have HO_55 := n3_
                                          have HO_64 := n4_
                                          have BK213 := n5_
                                          have BK256 := n6_
                                          have HI216 := n7_
                                          have HB := n8_
                                          clear n0_ n1_ n2_ n3_ n4_ n5_ n6_ n7_ n8_
                                          (try clear hb)
                                          (try clear hb2)
                                          (try clear hk)
                                          (try clear hi)
                                          refine hK.out _ _ ⟨(blk_cell BK256.out 0).trans rfl, (blk_cell BK256.out 1).trans rfl, (blk_cell BK256.out 2).trans rfl, (blk_cell BK256.out 3).trans rfl⟩ (fun hHeld => ?_)
                                          clear hK K
                                          refine norm_ (a' := ?_) ?_ ?_
                                          rotate_left
                                          · show Act.put _ (some 73) _ = _
                                            simp only [Act.put, List.setIfInBounds_toArray, List.set_cons_zero, List.set_cons_succ, i64_w, i32_w]
                                            rfl
                                          refine one_ (i := 7) (N := some 77) #[true, true, true, true, true, true, true, true, false, false, false, false, false, false, false, false] rfl rfl (one_of HT_.out (by kernel_rfl)) (by decide) (fun K hK => ?_)
                                          refine goes_ Tryd.func24 (by kernel_rfl) rfl #[.slice A254_0 (rd_L4 y251 x51_2).length c254_0, .int .i64 (rd y259 x66_4), .agg #[.string ((rd_T34 x12_1 x57_3).f0), .int .i64 ((rd_T34 x12_1 x57_3).f1), .int .i64 ((rd_T34 x12_1 x57_3).f2), .string ((rd_T34 x12_1 x57_3).f3)]] (by rfl) rfl rfl (by (try simp only [List.map_toArray, List.map_cons, List.map_nil]); first | done | rfl | (simp only [List.length_drop, List.length_take]; rfl)) ?_
                                          with_reducible refine (kauditref37_Interpret.calls k4 _ _ (rd_L4 y251 x51_2) (rd y259 x66_4) ((rd_T34 x12_1 x57_3).f0) ((rd_T34 x12_1 x57_3).f1) ((rd_T34 x12_1 x57_3).f2) ((rd_T34 x12_1 x57_3).f3) t264 _ ?side1 ?side2 A61.out).mono ?_
                                          (case side1 => repeat (first | exact (Kd.V_reads' HO_16.out).2.2 | (with_reducible refine Kd.C_alloc ?_ _) | (with_reducible refine Kd.C_drewN ?_ _) | (with_reducible refine Kd.C_drew ?_)))
                                          (case side2 => exact (Kd.V_reads' HO_16.out).2.1)
                                          rintro e w73 ⟨rfl, hb⟩
                                          refine ⟨_, rfl, ?_⟩
                                          have n0_ := Aside0.mk (Kd.R_below (by (with_reducible repeat (first | apply Kd.R_alloc | apply Kd.R_drewN | apply Kd.R_drew)); exact HO_12.out) hb)
                                          have n1_ := Aside0.mk (Kd.V_below (by (with_reducible repeat (first | apply Kd.V_alloc | apply Kd.V_drewN | apply Kd.V_drew)); exact HO_16.out) hb)
                                          have n2_ := Aside0.mk (Kd.N_below (by (with_reducible repeat (first | apply Kd.N_alloc | apply Kd.N_drewN | apply Kd.N_drew)); exact HO_49.out) hb)
                                          have n3_ := Aside0.mk (Kd.R_below (by (with_reducible repeat (first | apply Kd.R_alloc | apply Kd.R_drewN | apply Kd.R_drew)); exact HO_55.out) hb)
                                          have n4_ := Aside0.mk (Kd.R_below (by (with_reducible repeat (first | apply Kd.R_alloc | apply Kd.R_drewN | apply Kd.R_drew)); exact HO_64.out) hb)
                                          have n5_ := Aside0.mk (blk_below (g := gb213) (o := .cells #[.string a3_0, .int .i64 a3_1, .int .i64 a3_2, .string a3_3] 34 (0, 0)) (by (with_reducible repeat (first | refine blk_drewN ?_ _ | refine blk_drew ?_ | refine blk_alloc ?_ _)); exact BK213.out) hb)
                                          have n6_ := Aside0.mk (blk_below (g := gb256) (o := .cells #[.string ((rd_T34 x12_1 x57_3).f0), .int .i64 ((rd_T34 x12_1 x57_3).f1), .int .i64 ((rd_T34 x12_1 x57_3).f2), .string ((rd_T34 x12_1 x57_3).f3)] 34 (0, 0)) (by (with_reducible repeat (first | refine blk_drewN ?_ _ | refine blk_drew ?_ | refine blk_alloc ?_ _)); exact BK256.out) hb)
                                          have n7_ := Aside0.mk (IsS91.below (by repeat (first | (with_reducible first | exact HI216.out | apply IsS91.alloc | apply IsS91.drewN | apply IsS91.drew | apply IsS91.set_1 | refine IsS91.far ?_ NB216_213.out _ | refine IsS91.far ?_ NB216_256.out _) | exact HI216.out)) hb)
                                          have n8_ := Aside0.mk (below_step (by repeat (first | (with_reducible first | exact HB.out | apply below_alloc | apply pw_below_drewN | apply below_drew1 | refine below_set ?_ (IsS91.ge HI216.out) | refine below_set ?_ GE213.out | refine below_set ?_ GE256.out) | exact HB.out)) hb)
                                          clear HO_12
                                          clear HO_16
                                          clear HO_49
                                          clear HO_55
                                          clear HO_64
                                          clear BK213
                                          clear BK256
                                          clear HI216
                                          clear HB
                                          have HO_12 := n0_
                                          have HO_16 := n1_
                                          have HO_49 := n2_
                                          have HO_55 := n3_
                                          have HO_64 := n4_
                                          have BK213 := n5_
                                          have BK256 := n6_
                                          have HI216 := n7_
                                          have HB := n8_
                                          clear n0_ n1_ n2_ n3_ n4_ n5_ n6_ n7_ n8_
                                          (try clear hb)
                                          (try clear hb2)
                                          (try clear hk)
                                          (try clear hi)
                                          refine hK.out _ _ ⟨(blk_cell BK256.out 0).trans rfl, (blk_cell BK256.out 1).trans rfl, (blk_cell BK256.out 2).trans rfl, (blk_cell BK256.out 3).trans rfl⟩ (fun hHeld => ?_)
                                          clear hK K
                                          refine norm_ (a' := ?_) ?_ ?_
                                          rotate_left
                                          · show Act.put _ (some 77) _ = _
                                            simp only [Act.put, List.setIfInBounds_toArray, List.set_cons_zero, List.set_cons_succ, i64_w, i32_w]
                                            rfl
                                          refine pure_ (i := 8) (N := some 78) (v := ?_) (a' := ?_) #[true, true, true, true, true, true, true, true, true, false, false, false, false, false, false, false] rfl rfl (any_of HT_.out (by kernel_rfl)) (fun _ _ _ h => h) (Or.inl ⟨by rfl, ?_⟩) ?_ ?_
                                          rotate_left
                                          · intro w'
                                            go_simp
                                            with_reducible rfl
                                          rotate_left
                                          · simp only [Act.put, List.setIfInBounds_toArray, List.set_cons_zero, List.set_cons_succ, i64_w, i32_w]
                                            rfl
                                          refine pure_ (i := 9) (N := some 79) (v := ?_) (a' := ?_) #[true, true, true, true, true, true, true, true, true, true, false, false, false, false, false, false] rfl rfl (any_of HT_.out (by kernel_rfl)) (fun _ _ _ h => h) (Or.inl ⟨by rfl, ?_⟩) ?_ ?_
                                          rotate_left
                                          · intro w'
                                            go_simp
                                            with_reducible rfl
                                          rotate_left
                                          · simp only [Act.put, List.setIfInBounds_toArray, List.set_cons_zero, List.set_cons_succ, i64_w, i32_w]
                                            rfl
                                          refine take_ (i := 10) (N := some 80) (v := ?_) (a' := ?_) #[true, true, true, true, true, true, true, true, true, true, true, false, false, false, false, false] rfl rfl (take_ofW HT_.out HW_.out (by kernel_rfl)) (fun _ _ _ h => h) (Or.inl ⟨by rfl, ?_⟩) hHeld ?_ ?_
                                          rotate_left
                                          · rintro w' ⟨s0, s1, s2, s3⟩
                                            go_simp
                                            with_reducible rfl
                                          rotate_left
                                          · simp only [Act.put, List.setIfInBounds_toArray, List.set_cons_zero, List.set_cons_succ, i64_w, i32_w]
                                            rfl
                                          refine take_ (i := 12) (N := some 82) (v := ?_) (a' := ?_) #[true, true, true, true, true, true, true, true, true, true, true, false, true, false, false, false] rfl rfl (take_ofW HT_.out HW_.out (by kernel_rfl)) (fun _ _ _ h => h) (Or.inl ⟨by rfl, ?_⟩) hHeld ?_ ?_
                                          rotate_left
                                          · rintro w' ⟨s0, s1, s2, s3⟩
                                            go_simp
                                            with_reducible rfl
                                          rotate_left
                                          · simp only [Act.put, List.setIfInBounds_toArray, List.set_cons_zero, List.set_cons_succ, i64_w, i32_w]
                                            rfl
                                          refine one_ (i := 11) (N := some 81) #[true, true, true, true, true, true, true, true, true, true, true, true, true, false, false, false] rfl rfl (one_of HT_.out (by kernel_rfl)) (by decide) (fun K hK => ?_)
                                          refine goes_ Tryd.func25 (by kernel_rfl) rfl #[.agg #[.string ((rd_T34 x12_1 x57_3).f0), .int .i64 ((rd_T34 x12_1 x57_3).f1), .int .i64 ((rd_T34 x12_1 x57_3).f2), .string ((rd_T34 x12_1 x57_3).f3)]] (by rfl) rfl rfl (by (try simp only [List.map_toArray, List.map_cons, List.map_nil]); first | done | rfl | (simp only [List.length_drop, List.length_take]; rfl)) ?_
                                          with_reducible refine (names_Plain.calls ((rd_T34 x12_1 x57_3).f0) ((rd_T34 x12_1 x57_3).f1) ((rd_T34 x12_1 x57_3).f2) ((rd_T34 x12_1 x57_3).f3) t265 _ ?side1 A63.out).mono ?_
                                          (case side1 => refine GL.below HGL.out ?_; repeat (first | (with_reducible first | exact HB.out | apply below_alloc | apply pw_below_drewN | apply below_drew1 | refine below_set ?_ (IsS91.ge HI216.out) | refine below_set ?_ GE213.out | refine below_set ?_ GE256.out) | exact HB.out))
                                          rintro e w74 ⟨rfl, hb⟩
                                          refine ⟨_, rfl, ?_⟩
                                          have n0_ := Aside0.mk (Kd.R_below (by (with_reducible repeat (first | apply Kd.R_alloc | apply Kd.R_drewN | apply Kd.R_drew)); exact HO_12.out) hb)
                                          have n1_ := Aside0.mk (Kd.V_below (by (with_reducible repeat (first | apply Kd.V_alloc | apply Kd.V_drewN | apply Kd.V_drew)); exact HO_16.out) hb)
                                          have n2_ := Aside0.mk (Kd.N_below (by (with_reducible repeat (first | apply Kd.N_alloc | apply Kd.N_drewN | apply Kd.N_drew)); exact HO_49.out) hb)
                                          have n3_ := Aside0.mk (Kd.R_below (by (with_reducible repeat (first | apply Kd.R_alloc | apply Kd.R_drewN | apply Kd.R_drew)); exact HO_55.out) hb)
                                          have n4_ := Aside0.mk (Kd.R_below (by (with_reducible repeat (first | apply Kd.R_alloc | apply Kd.R_drewN | apply Kd.R_drew)); exact HO_64.out) hb)
                                          have n5_ := Aside0.mk (blk_below (g := gb213) (o := .cells #[.string a3_0, .int .i64 a3_1, .int .i64 a3_2, .string a3_3] 34 (0, 0)) (by (with_reducible repeat (first | refine blk_drewN ?_ _ | refine blk_drew ?_ | refine blk_alloc ?_ _)); exact BK213.out) hb)
                                          have n6_ := Aside0.mk (blk_below (g := gb256) (o := .cells #[.string ((rd_T34 x12_1 x57_3).f0), .int .i64 ((rd_T34 x12_1 x57_3).f1), .int .i64 ((rd_T34 x12_1 x57_3).f2), .string ((rd_T34 x12_1 x57_3).f3)] 34 (0, 0)) (by (with_reducible repeat (first | refine blk_drewN ?_ _ | refine blk_drew ?_ | refine blk_alloc ?_ _)); exact BK256.out) hb)
                                          have n7_ := Aside0.mk (IsS91.below (by repeat (first | (with_reducible first | exact HI216.out | apply IsS91.alloc | apply IsS91.drewN | apply IsS91.drew | apply IsS91.set_1 | refine IsS91.far ?_ NB216_213.out _ | refine IsS91.far ?_ NB216_256.out _) | exact HI216.out)) hb)
                                          have n8_ := Aside0.mk (below_step (by repeat (first | (with_reducible first | exact HB.out | apply below_alloc | apply pw_below_drewN | apply below_drew1 | refine below_set ?_ (IsS91.ge HI216.out) | refine below_set ?_ GE213.out | refine below_set ?_ GE256.out) | exact HB.out)) hb)
                                          clear HO_12
                                          clear HO_16
                                          clear HO_49
                                          clear HO_55
                                          clear HO_64
                                          clear BK213
                                          clear BK256
                                          clear HI216
                                          clear HB
                                          have HO_12 := n0_
                                          have HO_16 := n1_
                                          have HO_49 := n2_
                                          have HO_55 := n3_
                                          have HO_64 := n4_
                                          have BK213 := n5_
                                          have BK256 := n6_
                                          have HI216 := n7_
                                          have HB := n8_
                                          clear n0_ n1_ n2_ n3_ n4_ n5_ n6_ n7_ n8_
                                          (try clear hb)
                                          (try clear hb2)
                                          (try clear hk)
                                          (try clear hi)
                                          refine hK.out _ _ ⟨(blk_cell BK256.out 0).trans rfl, (blk_cell BK256.out 1).trans rfl, (blk_cell BK256.out 2).trans rfl, (blk_cell BK256.out 3).trans rfl⟩ (fun hHeld => ?_)
                                          clear hK K
                                          refine norm_ (a' := ?_) ?_ ?_
                                          rotate_left
                                          · show Act.put _ (some 81) _ = _
                                            simp only [Act.put, List.setIfInBounds_toArray, List.set_cons_zero, List.set_cons_succ, i64_w, i32_w]
                                            rfl
                                          refine one_ (i := 13) (N := some 83) #[true, true, true, true, true, true, true, true, true, true, true, true, true, true, false, false] rfl rfl (one_of HT_.out (by kernel_rfl)) (by decide) (fun K hK => ?_)
                                          refine goes_ Tryd.func26 (by kernel_rfl) rfl #[.agg #[.string ((rd_T34 x12_1 x57_3).f0), .int .i64 ((rd_T34 x12_1 x57_3).f1), .int .i64 ((rd_T34 x12_1 x57_3).f2), .string ((rd_T34 x12_1 x57_3).f3)]] (by rfl) rfl rfl (by (try simp only [List.map_toArray, List.map_cons, List.map_nil]); first | done | rfl | (simp only [List.length_drop, List.length_take]; rfl)) ?_
                                          with_reducible refine (kauditref37_Plain.calls ((rd_T34 x12_1 x57_3).f0) ((rd_T34 x12_1 x57_3).f1) ((rd_T34 x12_1 x57_3).f2) ((rd_T34 x12_1 x57_3).f3) t266 _ A64.out).mono ?_
                                          rintro e w75 ⟨rfl, hb⟩
                                          refine ⟨_, rfl, ?_⟩
                                          have n0_ := Aside0.mk (Kd.R_below (by (with_reducible repeat (first | apply Kd.R_alloc | apply Kd.R_drewN | apply Kd.R_drew)); exact HO_12.out) hb)
                                          have n1_ := Aside0.mk (Kd.V_below (by (with_reducible repeat (first | apply Kd.V_alloc | apply Kd.V_drewN | apply Kd.V_drew)); exact HO_16.out) hb)
                                          have n2_ := Aside0.mk (Kd.N_below (by (with_reducible repeat (first | apply Kd.N_alloc | apply Kd.N_drewN | apply Kd.N_drew)); exact HO_49.out) hb)
                                          have n3_ := Aside0.mk (Kd.R_below (by (with_reducible repeat (first | apply Kd.R_alloc | apply Kd.R_drewN | apply Kd.R_drew)); exact HO_55.out) hb)
                                          have n4_ := Aside0.mk (Kd.R_below (by (with_reducible repeat (first | apply Kd.R_alloc | apply Kd.R_drewN | apply Kd.R_drew)); exact HO_64.out) hb)
                                          have n5_ := Aside0.mk (blk_below (g := gb213) (o := .cells #[.string a3_0, .int .i64 a3_1, .int .i64 a3_2, .string a3_3] 34 (0, 0)) (by (with_reducible repeat (first | refine blk_drewN ?_ _ | refine blk_drew ?_ | refine blk_alloc ?_ _)); exact BK213.out) hb)
                                          have n6_ := Aside0.mk (blk_below (g := gb256) (o := .cells #[.string ((rd_T34 x12_1 x57_3).f0), .int .i64 ((rd_T34 x12_1 x57_3).f1), .int .i64 ((rd_T34 x12_1 x57_3).f2), .string ((rd_T34 x12_1 x57_3).f3)] 34 (0, 0)) (by (with_reducible repeat (first | refine blk_drewN ?_ _ | refine blk_drew ?_ | refine blk_alloc ?_ _)); exact BK256.out) hb)
                                          have n7_ := Aside0.mk (IsS91.below (by repeat (first | (with_reducible first | exact HI216.out | apply IsS91.alloc | apply IsS91.drewN | apply IsS91.drew | apply IsS91.set_1 | refine IsS91.far ?_ NB216_213.out _ | refine IsS91.far ?_ NB216_256.out _) | exact HI216.out)) hb)
                                          have n8_ := Aside0.mk (below_step (by repeat (first | (with_reducible first | exact HB.out | apply below_alloc | apply pw_below_drewN | apply below_drew1 | refine below_set ?_ (IsS91.ge HI216.out) | refine below_set ?_ GE213.out | refine below_set ?_ GE256.out) | exact HB.out)) hb)
                                          clear HO_12
                                          clear HO_16
                                          clear HO_49
                                          clear HO_55
                                          clear HO_64
                                          clear BK213
                                          clear BK256
                                          clear HI216
                                          clear HB
                                          have HO_12 := n0_
                                          have HO_16 := n1_
                                          have HO_49 := n2_
                                          have HO_55 := n3_
                                          have HO_64 := n4_
                                          have BK213 := n5_
                                          have BK256 := n6_
                                          have HI216 := n7_
                                          have HB := n8_
                                          clear n0_ n1_ n2_ n3_ n4_ n5_ n6_ n7_ n8_
                                          (try clear hb)
                                          (try clear hb2)
                                          (try clear hk)
                                          (try clear hi)
                                          refine hK.out _ _ ⟨(blk_cell BK256.out 0).trans rfl, (blk_cell BK256.out 1).trans rfl, (blk_cell BK256.out 2).trans rfl, (blk_cell BK256.out 3).trans rfl⟩ (fun hHeld => ?_)
                                          clear hK K
                                          refine norm_ (a' := ?_) ?_ ?_
                                          rotate_left
                                          · show Act.put _ (some 83) _ = _
                                            simp only [Act.put, List.setIfInBounds_toArray, List.set_cons_zero, List.set_cons_succ, i64_w, i32_w]
                                            rfl
                                          refine pure_ (i := 14) (N := some 84) (v := ?_) (a' := ?_) #[true, true, true, true, true, true, true, true, true, true, true, true, true, true, true, false] rfl rfl (any_of HT_.out (by kernel_rfl)) (fun _ _ _ h => h) (Or.inl ⟨by rfl, ?_⟩) ?_ ?_
                                          rotate_left
                                          · intro w'
                                            go_simp
                                            with_reducible rfl
                                          rotate_left
                                          · simp only [Act.put, List.setIfInBounds_toArray, List.set_cons_zero, List.set_cons_succ, i64_w, i32_w]
                                            rfl
                                          refine pure_ (i := 15) (N := some 85) (v := ?_) (a' := ?_) #[true, true, true, true, true, true, true, true, true, true, true, true, true, true, true, true] rfl rfl (any_of HT_.out (by kernel_rfl)) (fun _ _ _ h => h) (Or.inl ⟨by rfl, ?_⟩) ?_ ?_
                                          rotate_left
                                          · intro w'
                                            go_simp
                                            with_reducible rfl
                                          rotate_left
                                          · simp only [Act.put, List.setIfInBounds_toArray, List.set_cons_zero, List.set_cons_succ, i64_w, i32_w]
                                            rfl
                                          refine done_ (done_of HT_.out (by kernel_rfl)) ?_
                                          try go_wp2
                                          go_ret
                                          exact ⟨by first | rfl | (simp [errW_none, errW_some] <;> rfl) | (simp [*, errW_none, errW_some] <;> rfl) | (simp only [isEmpty_ne_, isEmpty_eq_]; rfl) | (simp [*, isEmpty_ne_, isEmpty_eq_]; done), by repeat (first | (with_reducible first | exact HB.out | apply below_alloc | apply pw_below_drewN | apply below_drew1 | refine below_set ?_ (IsS91.ge HI216.out) | refine below_set ?_ GE213.out | refine below_set ?_ GE256.out) | exact HB.out)⟩
                                      · rw [if_neg c62] at H
                                        have c62b0 : (t263.toList == t264.toList) = false := beq_eq_false_iff_ne.mpr c62
                                        have c62b1 : (t263.toList != t264.toList) = true := bne_iff_ne.mpr c62
                                        obtain rfl := Option.some.inj H
                                        have p262 : 0 ≤ (x66_4 : Int) := of_decide_eq_true (by first | (with_reducible assumption) | assumption)
                                        have q262 : x66_4 < (y259.length : Int) := of_decide_eq_true (by first | (with_reducible assumption) | assumption)
                                        obtain ⟨ad262, e262, hx262_0⟩ := Kd.at_int (Kd.R_reads' HO_64.out).2.2 x66_4 p262 q262
                                        cases e262
                                        replace p262 := eq_true p262
                                        replace q262 := eq_true q262
                                        try go_wp2
                                        have n0_ := Aside0.mk (Kd.R_drew HO_12.out)
                                        have n1_ := Aside0.mk (Kd.V_drew HO_16.out)
                                        have n2_ := Aside0.mk (Kd.N_drew HO_49.out)
                                        have n3_ := Aside0.mk (Kd.R_drew HO_55.out)
                                        have n4_ := Aside0.mk (Kd.R_drew HO_64.out)
                                        have n5_ := Aside0.mk (blk_drew BK213.out)
                                        have n6_ := Aside0.mk (blk_drew BK256.out)
                                        have n7_ := Aside0.mk (IsS91.drew HI216.out)
                                        have n8_ := Aside0.mk (below_drew1 HB.out)
                                        clear HO_12
                                        clear HO_16
                                        clear HO_49
                                        clear HO_55
                                        clear HO_64
                                        clear BK213
                                        clear BK256
                                        clear HI216
                                        clear HB
                                        have HO_12 := n0_
                                        have HO_16 := n1_
                                        have HO_49 := n2_
                                        have HO_55 := n3_
                                        have HO_64 := n4_
                                        have BK213 := n5_
                                        have BK256 := n6_
                                        have HI216 := n7_
                                        have HB := n8_
                                        clear n0_ n1_ n2_ n3_ n4_ n5_ n6_ n7_ n8_
                                        refine start_ (n := 16) (S := fun w' => w'.cell? ⟨gb256, 0, none⟩ = some (.string ((rd_T34 x12_1 x57_3).f0)) ∧ w'.cell? ⟨gb256, 1, none⟩ = some (.int .i64 ((rd_T34 x12_1 x57_3).f1)) ∧ w'.cell? ⟨gb256, 2, none⟩ = some (.int .i64 ((rd_T34 x12_1 x57_3).f2)) ∧ w'.cell? ⟨gb256, 3, none⟩ = some (.string ((rd_T34 x12_1 x57_3).f3))) (ds := []) #[false, false, false, false, false, false, false, false, false, false, false, false, false, false, false, false] (by kernel_rfl) rfl rfl ⟨(blk_cell BK256.out 0).trans rfl, (blk_cell BK256.out 1).trans rfl, (blk_cell BK256.out 2).trans rfl, (blk_cell BK256.out 3).trans rfl⟩ (fun hHeld => ?_); refine with_tabW kauditlaw37_NamesInterprets.tab17 kauditlaw37_NamesInterprets.bits17 (fun HT_ HW_ => ?_)
                                        generalize wr.drew = w76 at HO_12 HO_16 HO_49 HO_55 HO_64 BK213 BK256 HI216 HB hHeld ⊢
                                        refine pure_ (i := 0) (N := some 70) (v := ?_) (a' := ?_) #[true, false, false, false, false, false, false, false, false, false, false, false, false, false, false, false] rfl rfl (any_of HT_.out (by kernel_rfl)) (fun _ _ _ h => h) (Or.inl ⟨by rfl, ?_⟩) ?_ ?_
                                        rotate_left
                                        · intro w'
                                          go_simp
                                          with_reducible rfl
                                        rotate_left
                                        · simp only [Act.put, List.setIfInBounds_toArray, List.set_cons_zero, List.set_cons_succ, i64_w, i32_w]
                                          rfl
                                        refine pure_ (i := 1) (N := some 71) (v := ?_) (a' := ?_) #[true, true, false, false, false, false, false, false, false, false, false, false, false, false, false, false] rfl rfl (any_of HT_.out (by kernel_rfl)) (fun _ _ _ h => h) (Or.inl ⟨by rfl, ?_⟩) ?_ ?_
                                        rotate_left
                                        · intro w'
                                          go_simp
                                          with_reducible rfl
                                        rotate_left
                                        · simp only [Act.put, List.setIfInBounds_toArray, List.set_cons_zero, List.set_cons_succ, i64_w, i32_w]
                                          rfl
                                        refine pure_ (i := 4) (N := some 74) (v := ?_) (a' := ?_) #[true, true, false, false, true, false, false, false, false, false, false, false, false, false, false, false] rfl rfl (any_of HT_.out (by kernel_rfl)) (fun _ _ _ h => h) (Or.inl ⟨by rfl, ?_⟩) ?_ ?_
                                        rotate_left
                                        · intro w'
                                          go_simp
                                          with_reducible rfl
                                        rotate_left
                                        · simp only [Act.put, List.setIfInBounds_toArray, List.set_cons_zero, List.set_cons_succ, i64_w, i32_w]
                                          rfl
                                        refine pure_ (i := 5) (N := some 75) (v := ?_) (a' := ?_) #[true, true, false, false, true, true, false, false, false, false, false, false, false, false, false, false] rfl rfl (any_of HT_.out (by kernel_rfl)) (fun _ _ _ h => h) (Or.inl ⟨by rfl, ?_⟩) ?_ ?_
                                        rotate_left
                                        · intro w'
                                          go_simp
                                          with_reducible rfl
                                        rotate_left
                                        · simp only [Act.put, List.setIfInBounds_toArray, List.set_cons_zero, List.set_cons_succ, i64_w, i32_w]
                                          rfl
                                        refine take_ (i := 2) (N := some 72) (v := ?_) (a' := ?_) #[true, true, true, false, true, true, false, false, false, false, false, false, false, false, false, false] rfl rfl (take_ofW HT_.out HW_.out (by kernel_rfl)) (fun _ _ _ h => h) (Or.inl ⟨by rfl, ?_⟩) hHeld ?_ ?_
                                        rotate_left
                                        · rintro w' ⟨s0, s1, s2, s3⟩
                                          go_simp
                                          with_reducible rfl
                                        rotate_left
                                        · simp only [Act.put, List.setIfInBounds_toArray, List.set_cons_zero, List.set_cons_succ, i64_w, i32_w]
                                          rfl
                                        refine take_ (i := 6) (N := some 76) (v := ?_) (a' := ?_) #[true, true, true, false, true, true, true, false, false, false, false, false, false, false, false, false] rfl rfl (take_ofW HT_.out HW_.out (by kernel_rfl)) (fun _ _ _ h => h) (Or.inl ⟨by rfl, ?_⟩) hHeld ?_ ?_
                                        rotate_left
                                        · rintro w' ⟨s0, s1, s2, s3⟩
                                          go_simp
                                          with_reducible rfl
                                        rotate_left
                                        · simp only [Act.put, List.setIfInBounds_toArray, List.set_cons_zero, List.set_cons_succ, i64_w, i32_w]
                                          rfl
                                        refine one_ (i := 3) (N := some 73) #[true, true, true, true, true, true, true, false, false, false, false, false, false, false, false, false] rfl rfl (one_of HT_.out (by kernel_rfl)) (by decide) (fun K hK => ?_)
                                        refine goes_ Tryd.func23 (by kernel_rfl) rfl #[.slice A254_0 (rd_L4 y251 x51_2).length c254_0, .int .i64 (rd y259 x66_4), .agg #[.string ((rd_T34 x12_1 x57_3).f0), .int .i64 ((rd_T34 x12_1 x57_3).f1), .int .i64 ((rd_T34 x12_1 x57_3).f2), .string ((rd_T34 x12_1 x57_3).f3)]] (by rfl) rfl rfl (by (try simp only [List.map_toArray, List.map_cons, List.map_nil]); first | done | rfl | (simp only [List.length_drop, List.length_take]; rfl)) ?_
                                        with_reducible refine (names_Interpret.calls k4 _ _ (rd_L4 y251 x51_2) (rd y259 x66_4) ((rd_T34 x12_1 x57_3).f0) ((rd_T34 x12_1 x57_3).f1) ((rd_T34 x12_1 x57_3).f2) ((rd_T34 x12_1 x57_3).f3) t263 _ ?side1 ?side2 ?side3 A60.out).mono ?_
                                        (case side1 => repeat (first | exact (Kd.V_reads' HO_16.out).2.2 | (with_reducible refine Kd.C_alloc ?_ _) | (with_reducible refine Kd.C_drewN ?_ _) | (with_reducible refine Kd.C_drew ?_)))
                                        (case side2 => exact (Kd.V_reads' HO_16.out).2.1)
                                        (case side3 => refine GL.below HGL.out ?_; repeat (first | (with_reducible first | exact HB.out | apply below_alloc | apply pw_below_drewN | apply below_drew1 | refine below_set ?_ (IsS91.ge HI216.out) | refine below_set ?_ GE213.out | refine below_set ?_ GE256.out) | exact HB.out))
                                        rintro e w77 ⟨rfl, hb⟩
                                        refine ⟨_, rfl, ?_⟩
                                        have n0_ := Aside0.mk (Kd.R_below (by (with_reducible repeat (first | apply Kd.R_alloc | apply Kd.R_drewN | apply Kd.R_drew)); exact HO_12.out) hb)
                                        have n1_ := Aside0.mk (Kd.V_below (by (with_reducible repeat (first | apply Kd.V_alloc | apply Kd.V_drewN | apply Kd.V_drew)); exact HO_16.out) hb)
                                        have n2_ := Aside0.mk (Kd.N_below (by (with_reducible repeat (first | apply Kd.N_alloc | apply Kd.N_drewN | apply Kd.N_drew)); exact HO_49.out) hb)
                                        have n3_ := Aside0.mk (Kd.R_below (by (with_reducible repeat (first | apply Kd.R_alloc | apply Kd.R_drewN | apply Kd.R_drew)); exact HO_55.out) hb)
                                        have n4_ := Aside0.mk (Kd.R_below (by (with_reducible repeat (first | apply Kd.R_alloc | apply Kd.R_drewN | apply Kd.R_drew)); exact HO_64.out) hb)
                                        have n5_ := Aside0.mk (blk_below (g := gb213) (o := .cells #[.string a3_0, .int .i64 a3_1, .int .i64 a3_2, .string a3_3] 34 (0, 0)) (by (with_reducible repeat (first | refine blk_drewN ?_ _ | refine blk_drew ?_ | refine blk_alloc ?_ _)); exact BK213.out) hb)
                                        have n6_ := Aside0.mk (blk_below (g := gb256) (o := .cells #[.string ((rd_T34 x12_1 x57_3).f0), .int .i64 ((rd_T34 x12_1 x57_3).f1), .int .i64 ((rd_T34 x12_1 x57_3).f2), .string ((rd_T34 x12_1 x57_3).f3)] 34 (0, 0)) (by (with_reducible repeat (first | refine blk_drewN ?_ _ | refine blk_drew ?_ | refine blk_alloc ?_ _)); exact BK256.out) hb)
                                        have n7_ := Aside0.mk (IsS91.below (by repeat (first | (with_reducible first | exact HI216.out | apply IsS91.alloc | apply IsS91.drewN | apply IsS91.drew | apply IsS91.set_1 | refine IsS91.far ?_ NB216_213.out _ | refine IsS91.far ?_ NB216_256.out _) | exact HI216.out)) hb)
                                        have n8_ := Aside0.mk (below_step (by repeat (first | (with_reducible first | exact HB.out | apply below_alloc | apply pw_below_drewN | apply below_drew1 | refine below_set ?_ (IsS91.ge HI216.out) | refine below_set ?_ GE213.out | refine below_set ?_ GE256.out) | exact HB.out)) hb)
                                        clear HO_12
                                        clear HO_16
                                        clear HO_49
                                        clear HO_55
                                        clear HO_64
                                        clear BK213
                                        clear BK256
                                        clear HI216
                                        clear HB
                                        have HO_12 := n0_
                                        have HO_16 := n1_
                                        have HO_49 := n2_
                                        have HO_55 := n3_
                                        have HO_64 := n4_
                                        have BK213 := n5_
                                        have BK256 := n6_
                                        have HI216 := n7_
                                        have HB := n8_
                                        clear n0_ n1_ n2_ n3_ n4_ n5_ n6_ n7_ n8_
                                        (try clear hb)
                                        (try clear hb2)
                                        (try clear hk)
                                        (try clear hi)
                                        refine hK.out _ _ ⟨(blk_cell BK256.out 0).trans rfl, (blk_cell BK256.out 1).trans rfl, (blk_cell BK256.out 2).trans rfl, (blk_cell BK256.out 3).trans rfl⟩ (fun hHeld => ?_)
                                        clear hK K
                                        refine norm_ (a' := ?_) ?_ ?_
                                        rotate_left
                                        · show Act.put _ (some 73) _ = _
                                          simp only [Act.put, List.setIfInBounds_toArray, List.set_cons_zero, List.set_cons_succ, i64_w, i32_w]
                                          rfl
                                        refine one_ (i := 7) (N := some 77) #[true, true, true, true, true, true, true, true, false, false, false, false, false, false, false, false] rfl rfl (one_of HT_.out (by kernel_rfl)) (by decide) (fun K hK => ?_)
                                        refine goes_ Tryd.func24 (by kernel_rfl) rfl #[.slice A254_0 (rd_L4 y251 x51_2).length c254_0, .int .i64 (rd y259 x66_4), .agg #[.string ((rd_T34 x12_1 x57_3).f0), .int .i64 ((rd_T34 x12_1 x57_3).f1), .int .i64 ((rd_T34 x12_1 x57_3).f2), .string ((rd_T34 x12_1 x57_3).f3)]] (by rfl) rfl rfl (by (try simp only [List.map_toArray, List.map_cons, List.map_nil]); first | done | rfl | (simp only [List.length_drop, List.length_take]; rfl)) ?_
                                        with_reducible refine (kauditref37_Interpret.calls k4 _ _ (rd_L4 y251 x51_2) (rd y259 x66_4) ((rd_T34 x12_1 x57_3).f0) ((rd_T34 x12_1 x57_3).f1) ((rd_T34 x12_1 x57_3).f2) ((rd_T34 x12_1 x57_3).f3) t264 _ ?side1 ?side2 A61.out).mono ?_
                                        (case side1 => repeat (first | exact (Kd.V_reads' HO_16.out).2.2 | (with_reducible refine Kd.C_alloc ?_ _) | (with_reducible refine Kd.C_drewN ?_ _) | (with_reducible refine Kd.C_drew ?_)))
                                        (case side2 => exact (Kd.V_reads' HO_16.out).2.1)
                                        rintro e w78 ⟨rfl, hb⟩
                                        refine ⟨_, rfl, ?_⟩
                                        have n0_ := Aside0.mk (Kd.R_below (by (with_reducible repeat (first | apply Kd.R_alloc | apply Kd.R_drewN | apply Kd.R_drew)); exact HO_12.out) hb)
                                        have n1_ := Aside0.mk (Kd.V_below (by (with_reducible repeat (first | apply Kd.V_alloc | apply Kd.V_drewN | apply Kd.V_drew)); exact HO_16.out) hb)
                                        have n2_ := Aside0.mk (Kd.N_below (by (with_reducible repeat (first | apply Kd.N_alloc | apply Kd.N_drewN | apply Kd.N_drew)); exact HO_49.out) hb)
                                        have n3_ := Aside0.mk (Kd.R_below (by (with_reducible repeat (first | apply Kd.R_alloc | apply Kd.R_drewN | apply Kd.R_drew)); exact HO_55.out) hb)
                                        have n4_ := Aside0.mk (Kd.R_below (by (with_reducible repeat (first | apply Kd.R_alloc | apply Kd.R_drewN | apply Kd.R_drew)); exact HO_64.out) hb)
                                        have n5_ := Aside0.mk (blk_below (g := gb213) (o := .cells #[.string a3_0, .int .i64 a3_1, .int .i64 a3_2, .string a3_3] 34 (0, 0)) (by (with_reducible repeat (first | refine blk_drewN ?_ _ | refine blk_drew ?_ | refine blk_alloc ?_ _)); exact BK213.out) hb)
                                        have n6_ := Aside0.mk (blk_below (g := gb256) (o := .cells #[.string ((rd_T34 x12_1 x57_3).f0), .int .i64 ((rd_T34 x12_1 x57_3).f1), .int .i64 ((rd_T34 x12_1 x57_3).f2), .string ((rd_T34 x12_1 x57_3).f3)] 34 (0, 0)) (by (with_reducible repeat (first | refine blk_drewN ?_ _ | refine blk_drew ?_ | refine blk_alloc ?_ _)); exact BK256.out) hb)
                                        have n7_ := Aside0.mk (IsS91.below (by repeat (first | (with_reducible first | exact HI216.out | apply IsS91.alloc | apply IsS91.drewN | apply IsS91.drew | apply IsS91.set_1 | refine IsS91.far ?_ NB216_213.out _ | refine IsS91.far ?_ NB216_256.out _) | exact HI216.out)) hb)
                                        have n8_ := Aside0.mk (below_step (by repeat (first | (with_reducible first | exact HB.out | apply below_alloc | apply pw_below_drewN | apply below_drew1 | refine below_set ?_ (IsS91.ge HI216.out) | refine below_set ?_ GE213.out | refine below_set ?_ GE256.out) | exact HB.out)) hb)
                                        clear HO_12
                                        clear HO_16
                                        clear HO_49
                                        clear HO_55
                                        clear HO_64
                                        clear BK213
                                        clear BK256
                                        clear HI216
                                        clear HB
                                        have HO_12 := n0_
                                        have HO_16 := n1_
                                        have HO_49 := n2_
                                        have HO_55 := n3_
                                        have HO_64 := n4_
                                        have BK213 := n5_
                                        have BK256 := n6_
                                        have HI216 := n7_
                                        have HB := n8_
                                        clear n0_ n1_ n2_ n3_ n4_ n5_ n6_ n7_ n8_
                                        (try clear hb)
                                        (try clear hb2)
                                        (try clear hk)
                                        (try clear hi)
                                        refine hK.out _ _ ⟨(blk_cell BK256.out 0).trans rfl, (blk_cell BK256.out 1).trans rfl, (blk_cell BK256.out 2).trans rfl, (blk_cell BK256.out 3).trans rfl⟩ (fun hHeld => ?_)
                                        clear hK K
                                        refine norm_ (a' := ?_) ?_ ?_
                                        rotate_left
                                        · show Act.put _ (some 77) _ = _
                                          simp only [Act.put, List.setIfInBounds_toArray, List.set_cons_zero, List.set_cons_succ, i64_w, i32_w]
                                          rfl
                                        refine pure_ (i := 8) (N := some 78) (v := ?_) (a' := ?_) #[true, true, true, true, true, true, true, true, true, false, false, false, false, false, false, false] rfl rfl (any_of HT_.out (by kernel_rfl)) (fun _ _ _ h => h) (Or.inl ⟨by rfl, ?_⟩) ?_ ?_
                                        rotate_left
                                        · intro w'
                                          go_simp
                                          with_reducible rfl
                                        rotate_left
                                        · simp only [Act.put, List.setIfInBounds_toArray, List.set_cons_zero, List.set_cons_succ, i64_w, i32_w]
                                          rfl
                                        refine pure_ (i := 9) (N := some 79) (v := ?_) (a' := ?_) #[true, true, true, true, true, true, true, true, true, true, false, false, false, false, false, false] rfl rfl (any_of HT_.out (by kernel_rfl)) (fun _ _ _ h => h) (Or.inl ⟨by rfl, ?_⟩) ?_ ?_
                                        rotate_left
                                        · intro w'
                                          go_simp
                                          with_reducible rfl
                                        rotate_left
                                        · simp only [Act.put, List.setIfInBounds_toArray, List.set_cons_zero, List.set_cons_succ, i64_w, i32_w]
                                          rfl
                                        refine pure_ (i := 10) (N := some 80) (v := undef) (a' := ?_) #[true, true, true, true, true, true, true, true, true, true, true, false, false, false, false, false] rfl rfl (any_of HT_.out (by kernel_rfl)) (fun _ _ _ h => h) (Or.inr ⟨by rfl, rfl⟩) ?_ ?_
                                        rotate_left
                                        · simp only [Act.put, List.setIfInBounds_toArray, List.set_cons_zero, List.set_cons_succ, i64_w, i32_w]
                                          rfl
                                        refine pure_ (i := 11) (N := some 81) (v := undef) (a' := ?_) #[true, true, true, true, true, true, true, true, true, true, true, true, false, false, false, false] rfl rfl (any_of HT_.out (by kernel_rfl)) (fun _ _ _ h => h) (Or.inr ⟨by rfl, rfl⟩) ?_ ?_
                                        rotate_left
                                        · simp only [Act.put, List.setIfInBounds_toArray, List.set_cons_zero, List.set_cons_succ, i64_w, i32_w]
                                          rfl
                                        refine pure_ (i := 12) (N := some 82) (v := undef) (a' := ?_) #[true, true, true, true, true, true, true, true, true, true, true, true, true, false, false, false] rfl rfl (any_of HT_.out (by kernel_rfl)) (fun _ _ _ h => h) (Or.inr ⟨by rfl, rfl⟩) ?_ ?_
                                        rotate_left
                                        · simp only [Act.put, List.setIfInBounds_toArray, List.set_cons_zero, List.set_cons_succ, i64_w, i32_w]
                                          rfl
                                        refine pure_ (i := 13) (N := some 83) (v := undef) (a' := ?_) #[true, true, true, true, true, true, true, true, true, true, true, true, true, true, false, false] rfl rfl (any_of HT_.out (by kernel_rfl)) (fun _ _ _ h => h) (Or.inr ⟨by rfl, rfl⟩) ?_ ?_
                                        rotate_left
                                        · simp only [Act.put, List.setIfInBounds_toArray, List.set_cons_zero, List.set_cons_succ, i64_w, i32_w]
                                          rfl
                                        refine pure_ (i := 14) (N := some 84) (v := undef) (a' := ?_) #[true, true, true, true, true, true, true, true, true, true, true, true, true, true, true, false] rfl rfl (any_of HT_.out (by kernel_rfl)) (fun _ _ _ h => h) (Or.inr ⟨by rfl, rfl⟩) ?_ ?_
                                        rotate_left
                                        · simp only [Act.put, List.setIfInBounds_toArray, List.set_cons_zero, List.set_cons_succ, i64_w, i32_w]
                                          rfl
                                        refine pure_ (i := 15) (N := some 85) (v := ?_) (a' := ?_) #[true, true, true, true, true, true, true, true, true, true, true, true, true, true, true, true] rfl rfl (any_of HT_.out (by kernel_rfl)) (fun _ _ _ h => h) (Or.inl ⟨by rfl, ?_⟩) ?_ ?_
                                        rotate_left
                                        · intro w'
                                          go_simp
                                          with_reducible rfl
                                        rotate_left
                                        · simp only [Act.put, List.setIfInBounds_toArray, List.set_cons_zero, List.set_cons_succ, i64_w, i32_w]
                                          rfl
                                        refine done_ (done_of HT_.out (by kernel_rfl)) ?_
                                        try go_wp2
                                        go_ret
                                        exact ⟨by first | rfl | (simp [errW_none, errW_some] <;> rfl) | (simp [*, errW_none, errW_some] <;> rfl) | (simp only [isEmpty_ne_, isEmpty_eq_]; rfl) | (simp [*, isEmpty_ne_, isEmpty_eq_]; done), by repeat (first | (with_reducible first | exact HB.out | apply below_alloc | apply pw_below_drewN | apply below_drew1 | refine below_set ?_ (IsS91.ge HI216.out) | refine below_set ?_ GE213.out | refine below_set ?_ GE256.out) | exact HB.out)⟩
                                    · rw [if_neg c59] at H
                                      exact absurd H (by simp)
                                  · rw [if_neg c58] at H
                                    exact absurd H (by simp)
                                · rw [if_neg c57] at H
                                  have c57b0 : decide (x66_4 < (y259.length : Int)) = false := decide_eq_false c57
                                  clear c57
                                  have H' := Aside0.mk H
                                  clear H
                                  go_wp2
                                  go_roundg k4
                                  case measure => have := HK1.out; have := HK2.out; have := HK3.out; have := HK4.out; omega
                                  case rel => exact ⟨(wrap64 (x57_3 + 1)), (t258), (by first | rfl | (simp; done) | (simp [*]; done)), H', ⟨by have := HK1.out; have := HK2.out; have := HK3.out; have := HK4.out; omega⟩, ⟨by (with_reducible repeat (first | apply Kd.R_alloc | apply Kd.R_drewN | apply Kd.R_drew)); exact Kd.R_mono HO_12.out (fun _ hk => ⟨hk.1, hk.2.1⟩)⟩, ⟨by (with_reducible repeat (first | apply Kd.V_alloc | apply Kd.V_drewN | apply Kd.V_drew)); exact Kd.V_mono HO_16.out (fun _ hk => ⟨hk.1, ⟨hk.2.1, ⟨hk.2.2.1, ⟨hk.2.2.2.1, ⟨hk.2.2.2.2.2.1, hk.2.2.2.2.2.2.2⟩⟩⟩⟩⟩)⟩, ⟨by (with_reducible repeat (first | apply Kd.N_alloc | apply Kd.N_drewN | apply Kd.N_drew)); exact Kd.N_mono HO_49.out (fun _ hk => ⟨hk.1, ⟨hk.2.1, ⟨hk.2.2.1, ⟨hk.2.2.2.2.1, hk.2.2.2.2.2.2⟩⟩⟩⟩)⟩, ⟨by (with_reducible repeat (first | apply Kd.R_alloc | apply Kd.R_drewN | apply Kd.R_drew)); exact Kd.R_mono HO_55.out (fun _ hk => ⟨hk.1, hk.2.1⟩)⟩, ⟨by (with_reducible repeat (first | refine blk_drewN ?_ _ | refine blk_drew ?_ | refine blk_alloc ?_ _)); exact BK213.out⟩, ⟨by repeat (first | (with_reducible first | exact HI216.out | apply IsS91.alloc | apply IsS91.drewN | apply IsS91.drew | apply IsS91.set_1 | refine IsS91.far ?_ NB216_213.out _ | refine IsS91.far ?_ NB216_256.out _) | exact HI216.out)⟩, ⟨by repeat (first | (with_reducible first | exact HB.out | apply below_alloc | apply pw_below_drewN | apply below_drew1 | refine below_set ?_ (IsS91.ge HI216.out) | refine below_set ?_ GE213.out | refine below_set ?_ GE256.out) | exact HB.out)⟩⟩
                          · rw [if_neg c47] at H
                            exact absurd H (by simp)
                        · rw [if_neg c46] at H
                          exact absurd H (by simp)
                      · rw [if_neg c45] at H
                        have c45b0 : decide (x57_3 < (x12_1.length : Int)) = false := decide_eq_false c45
                        clear c45
                        have H' := Aside0.mk H
                        clear H
                        go_wp2
                        go_roundg k3
                        case measure => have := HK1.out; have := HK2.out; have := HK3.out; omega
                        case rel => exact ⟨(wrap64 (x51_2 + 1)), (x217001_3), (by first | rfl | (simp; done) | (simp [*]; done)), H', ⟨by have := HK1.out; have := HK2.out; have := HK3.out; omega⟩, ⟨by (with_reducible repeat (first | apply Kd.R_alloc | apply Kd.R_drewN | apply Kd.R_drew)); exact HO_12.out⟩, ⟨by (with_reducible repeat (first | apply Kd.N_alloc | apply Kd.N_drewN | apply Kd.N_drew)); exact Kd.N_mono HO_49.out (fun _ hk => ⟨hk.1, ⟨hk.2.1, ⟨hk.2.2.2.1, hk.2.2.2.2⟩⟩⟩)⟩, ⟨by (with_reducible repeat (first | refine blk_drewN ?_ _ | refine blk_drew ?_ | refine blk_alloc ?_ _)); exact BK213.out⟩, ⟨by repeat (first | (with_reducible first | exact HI216.out | apply IsS91.alloc | apply IsS91.drewN | apply IsS91.drew | apply IsS91.set_1 | refine IsS91.far ?_ NB216_213.out _) | exact HI216.out)⟩, ⟨by repeat (first | (with_reducible first | exact HB.out | apply below_alloc | apply pw_below_drewN | apply below_drew1 | refine below_set ?_ (IsS91.ge HI216.out) | refine below_set ?_ GE213.out) | exact HB.out)⟩⟩
                · rw [if_neg c43] at H
                  exact absurd H (by simp)
              · rw [if_neg c42] at H
                exact absurd H (by simp)
            · rw [if_neg c41] at H
              have c41b0 : decide (x51_2 < (y251.length : Int)) = false := decide_eq_false c41
              clear c41
              have H' := Aside0.mk H
              clear H
              go_wp2
              go_loopg [21] k2 (fun kq v21 w' => ∃ (x21_3 : Int), v21 = .int .i64 x21_3 ∧ Aside0 (kauditlaw37_NamesInterprets.l4 kq a4 x21_3 = some r) ∧ Aside0 (kq ≤ k2) ∧ Aside0 (w'.heap[gb213]? = some (.cells #[.string a3_0, .int .i64 a3_1, .int .i64 a3_2, .string a3_3] 34 (0, 0))) ∧ Aside0 (Below w.heap.size w w'))
              case atStart => exact ⟨((-1)), (by first | rfl | (simp; done) | (simp [*]; done)), H', ⟨Nat.le_refl _⟩, ⟨by (with_reducible repeat (first | refine blk_drewN ?_ _ | refine blk_drew ?_ | refine blk_alloc ?_ _)); exact BK213.out⟩, ⟨by repeat (first | (with_reducible first | exact HB.out | apply below_alloc | apply pw_below_drewN | apply below_drew1 | refine below_set ?_ (IsS91.ge HI216.out) | refine below_set ?_ GE213.out) | exact HB.out)⟩⟩
              case round =>
                clear H'
                try clear c2
                try clear p2
                try clear q2
                try clear hx2
                try clear c4
                try clear c5
                try clear c6
                try clear p6
                try clear c23
                try clear c24
                try clear c25
                try clear c26
                try clear p26
                try clear q26
                try clear hx26
                try clear c41
                try clear c41b0
                try clear c42
                try clear c43
                try clear c45
                try clear c45b0
                try clear c46
                try clear c47
                try clear c57
                try clear c57b0
                try clear c58
                try clear c59
                try clear c62
                try clear c62b0
                try clear c62b1
                try clear p64
                try clear c65
                try clear c65b0
                try clear c65b1
                try clear hx262_0
                try clear p262
                try clear q262
                obtain ⟨x21_3, rfl, HA, HK3, BK213, HB⟩ := hrel
                cases gk with
                | zero => exact absurd HA.out (by simp [kauditlaw37_NamesInterprets.l4])
                | succ k3 =>
                  have H := HA.out
                  clear HA
                  simp only [kauditlaw37_NamesInterprets.l4] at H
                  by_cases c79 : x21_3 < 120
                  · rw [if_pos c79] at H
                    have c79b0 : decide (x21_3 < 120) = true := decide_eq_true c79
                    clear c79
                    replace H := Option.bind_eq_some_iff.mp H
                    obtain ⟨t270, A800, H⟩ := H
                    replace H : ((kauditref37_ErrorName.f k3 x21_3).bind fun t271 => (if t270.toList = t271.toList then (kauditlaw37_NamesInterprets.l4 k3 a4 (wrap64 (x21_3 + 1))) else (some false))) = some r := H
                    have A80 := Aside0.mk A800
                    clear A800
                    replace H := Option.bind_eq_some_iff.mp H
                    obtain ⟨t271, A810, H⟩ := H
                    replace H : (if t270.toList = t271.toList then (kauditlaw37_NamesInterprets.l4 k3 a4 (wrap64 (x21_3 + 1))) else (some false)) = some r := H
                    have A81 := Aside0.mk A810
                    clear A810
                    by_cases c82 : t270.toList = t271.toList
                    · rw [if_pos c82] at H
                      have c82b0 : (t270.toList == t271.toList) = true := beq_iff_eq.mpr c82
                      have c82b1 : (t270.toList != t271.toList) = false := bne_eq_false_iff_eq.mpr c82
                      clear c82
                      have H' := Aside0.mk H
                      clear H
                      go_wp2_with (first | ((with_reducible refine gate_callee (f := 27) rfl ?_); refine goesL_ (some 94) rfl rfl Tryd.func27 (by kernel_rfl) rfl #[.int .i64 x21_3] rfl (by (try simp only [List.map_toArray, List.map_cons, List.map_nil]); first | done | rfl | (simp only [List.length_drop, List.length_take]; rfl)) ?_; (with_reducible refine (names_ErrorName.calls x21_3 t270 _ A80.out).mono ?_); rintro e w83 ⟨rfl, hb⟩; refine ⟨_, rfl, ?_⟩; have n0_ := Aside0.mk (blk_below (g := gb213) (o := .cells #[.string a3_0, .int .i64 a3_1, .int .i64 a3_2, .string a3_3] 34 (0, 0)) (by (with_reducible repeat (first | refine blk_drewN ?_ _ | refine blk_drew ?_ | refine blk_alloc ?_ _)); exact BK213.out) hb); have n1_ := Aside0.mk (below_step (by repeat (first | (with_reducible first | exact HB.out | apply below_alloc | apply pw_below_drewN | apply below_drew1 | refine below_set ?_ GE213.out) | exact HB.out)) hb); clear BK213; clear HB; have BK213 := n0_; have HB := n1_; clear n0_ n1_; (try clear hb); (try clear hb2); (try clear hk); (try clear hi)) | ((with_reducible refine gate_callee (f := 28) rfl ?_); refine goesL_ (some 96) rfl rfl Tryd.func28 (by kernel_rfl) rfl #[.int .i64 x21_3] rfl (by (try simp only [List.map_toArray, List.map_cons, List.map_nil]); first | done | rfl | (simp only [List.length_drop, List.length_take]; rfl)) ?_; (with_reducible refine (kauditref37_ErrorName.calls k3 x21_3 t271 _ A81.out).mono ?_); rintro e w84 ⟨rfl, hb⟩; refine ⟨_, rfl, ?_⟩; have n0_ := Aside0.mk (blk_below (g := gb213) (o := .cells #[.string a3_0, .int .i64 a3_1, .int .i64 a3_2, .string a3_3] 34 (0, 0)) (by (with_reducible repeat (first | refine blk_drewN ?_ _ | refine blk_drew ?_ | refine blk_alloc ?_ _)); exact BK213.out) hb); have n1_ := Aside0.mk (below_step (by repeat (first | (with_reducible first | exact HB.out | apply below_alloc | apply pw_below_drewN | apply below_drew1 | refine below_set ?_ GE213.out) | exact HB.out)) hb); clear BK213; clear HB; have BK213 := n0_; have HB := n1_; clear n0_ n1_; (try clear hb); (try clear hb2); (try clear hk); (try clear hi)))
                      go_roundg k3
                      case measure => have := HK1.out; have := HK2.out; have := HK3.out; omega
                      case rel => exact ⟨(wrap64 (x21_3 + 1)), (by first | rfl | (simp; done) | (simp [*]; done)), H', ⟨by have := HK1.out; have := HK2.out; have := HK3.out; omega⟩, ⟨by (with_reducible repeat (first | refine blk_drewN ?_ _ | refine blk_drew ?_ | refine blk_alloc ?_ _)); exact BK213.out⟩, ⟨by repeat (first | (with_reducible first | exact HB.out | apply below_alloc | apply pw_below_drewN | apply below_drew1 | refine below_set ?_ GE213.out) | exact HB.out)⟩⟩
                    · rw [if_neg c82] at H
                      have c82b0 : (t270.toList == t271.toList) = false := beq_eq_false_iff_ne.mpr c82
                      have c82b1 : (t270.toList != t271.toList) = true := bne_iff_ne.mpr c82
                      obtain rfl := Option.some.inj H
                      go_wp2_with (first | ((with_reducible refine gate_callee (f := 27) rfl ?_); refine goesL_ (some 94) rfl rfl Tryd.func27 (by kernel_rfl) rfl #[.int .i64 x21_3] rfl (by (try simp only [List.map_toArray, List.map_cons, List.map_nil]); first | done | rfl | (simp only [List.length_drop, List.length_take]; rfl)) ?_; (with_reducible refine (names_ErrorName.calls x21_3 t270 _ A80.out).mono ?_); rintro e w85 ⟨rfl, hb⟩; refine ⟨_, rfl, ?_⟩; have n0_ := Aside0.mk (blk_below (g := gb213) (o := .cells #[.string a3_0, .int .i64 a3_1, .int .i64 a3_2, .string a3_3] 34 (0, 0)) (by (with_reducible repeat (first | refine blk_drewN ?_ _ | refine blk_drew ?_ | refine blk_alloc ?_ _)); exact BK213.out) hb); have n1_ := Aside0.mk (below_step (by repeat (first | (with_reducible first | exact HB.out | apply below_alloc | apply pw_below_drewN | apply below_drew1 | refine below_set ?_ GE213.out) | exact HB.out)) hb); clear BK213; clear HB; have BK213 := n0_; have HB := n1_; clear n0_ n1_; (try clear hb); (try clear hb2); (try clear hk); (try clear hi)) | ((with_reducible refine gate_callee (f := 28) rfl ?_); refine goesL_ (some 96) rfl rfl Tryd.func28 (by kernel_rfl) rfl #[.int .i64 x21_3] rfl (by (try simp only [List.map_toArray, List.map_cons, List.map_nil]); first | done | rfl | (simp only [List.length_drop, List.length_take]; rfl)) ?_; (with_reducible refine (kauditref37_ErrorName.calls k3 x21_3 t271 _ A81.out).mono ?_); rintro e w86 ⟨rfl, hb⟩; refine ⟨_, rfl, ?_⟩; have n0_ := Aside0.mk (blk_below (g := gb213) (o := .cells #[.string a3_0, .int .i64 a3_1, .int .i64 a3_2, .string a3_3] 34 (0, 0)) (by (with_reducible repeat (first | refine blk_drewN ?_ _ | refine blk_drew ?_ | refine blk_alloc ?_ _)); exact BK213.out) hb); have n1_ := Aside0.mk (below_step (by repeat (first | (with_reducible first | exact HB.out | apply below_alloc | apply pw_below_drewN | apply below_drew1 | refine below_set ?_ GE213.out) | exact HB.out)) hb); clear BK213; clear HB; have BK213 := n0_; have HB := n1_; clear n0_ n1_; (try clear hb); (try clear hb2); (try clear hk); (try clear hi)))
                      go_ret
                      exact ⟨by first | rfl | (simp [errW_none, errW_some] <;> rfl) | (simp [*, errW_none, errW_some] <;> rfl) | (simp only [isEmpty_ne_, isEmpty_eq_]; rfl) | (simp [*, isEmpty_ne_, isEmpty_eq_]; done), by repeat (first | (with_reducible first | exact HB.out | apply below_alloc | apply pw_below_drewN | apply below_drew1 | refine below_set ?_ GE213.out) | exact HB.out)⟩
                  · rw [if_neg c79] at H
                    have c79b0 : decide (x21_3 < 120) = false := decide_eq_false c79
                    clear c79
                    replace H := Option.bind_eq_some_iff.mp H
                    obtain ⟨t267, A870, H⟩ := H
                    replace H : ((kauditref37_ErrorName.f k3 a4).bind fun t268 => (if t267.toList = t268.toList then ((kauditlaw37_begun.f k3).bind fun t269 => (some t269)) else (some false))) = some r := H
                    have A87 := Aside0.mk A870
                    clear A870
                    replace H := Option.bind_eq_some_iff.mp H
                    obtain ⟨t268, A880, H⟩ := H
                    replace H : (if t267.toList = t268.toList then ((kauditlaw37_begun.f k3).bind fun t269 => (some t269)) else (some false)) = some r := H
                    have A88 := Aside0.mk A880
                    clear A880
                    by_cases c89 : t267.toList = t268.toList
                    · rw [if_pos c89] at H
                      have c89b0 : (t267.toList == t268.toList) = true := beq_iff_eq.mpr c89
                      have c89b1 : (t267.toList != t268.toList) = false := bne_eq_false_iff_eq.mpr c89
                      clear c89
                      replace H := Option.bind_eq_some_iff.mp H
                      obtain ⟨t269, A900, H⟩ := H
                      replace H : (some t269) = some r := H
                      have A90 := Aside0.mk A900
                      clear A900
                      obtain rfl := Option.some.inj H
                      go_wp2_with (first | ((with_reducible refine gate_callee (f := 27) rfl ?_); refine goesL_ (some 99) rfl rfl Tryd.func27 (by kernel_rfl) rfl #[.int .i64 a4] rfl (by (try simp only [List.map_toArray, List.map_cons, List.map_nil]); first | done | rfl | (simp only [List.length_drop, List.length_take]; rfl)) ?_; (with_reducible refine (names_ErrorName.calls a4 t267 _ A87.out).mono ?_); rintro e w91 ⟨rfl, hb⟩; refine ⟨_, rfl, ?_⟩; have n0_ := Aside0.mk (blk_below (g := gb213) (o := .cells #[.string a3_0, .int .i64 a3_1, .int .i64 a3_2, .string a3_3] 34 (0, 0)) (by (with_reducible repeat (first | refine blk_drewN ?_ _ | refine blk_drew ?_ | refine blk_alloc ?_ _)); exact BK213.out) hb); have n1_ := Aside0.mk (below_step (by repeat (first | (with_reducible first | exact HB.out | apply below_alloc | apply pw_below_drewN | apply below_drew1 | refine below_set ?_ GE213.out) | exact HB.out)) hb); clear BK213; clear HB; have BK213 := n0_; have HB := n1_; clear n0_ n1_; (try clear hb); (try clear hb2); (try clear hk); (try clear hi)) | ((with_reducible refine gate_callee (f := 28) rfl ?_); refine goesL_ (some 101) rfl rfl Tryd.func28 (by kernel_rfl) rfl #[.int .i64 a4] rfl (by (try simp only [List.map_toArray, List.map_cons, List.map_nil]); first | done | rfl | (simp only [List.length_drop, List.length_take]; rfl)) ?_; (with_reducible refine (kauditref37_ErrorName.calls k3 a4 t268 _ A88.out).mono ?_); rintro e w92 ⟨rfl, hb⟩; refine ⟨_, rfl, ?_⟩; have n0_ := Aside0.mk (blk_below (g := gb213) (o := .cells #[.string a3_0, .int .i64 a3_1, .int .i64 a3_2, .string a3_3] 34 (0, 0)) (by (with_reducible repeat (first | refine blk_drewN ?_ _ | refine blk_drew ?_ | refine blk_alloc ?_ _)); exact BK213.out) hb); have n1_ := Aside0.mk (below_step (by repeat (first | (with_reducible first | exact HB.out | apply below_alloc | apply pw_below_drewN | apply below_drew1 | refine below_set ?_ GE213.out) | exact HB.out)) hb); clear BK213; clear HB; have BK213 := n0_; have HB := n1_; clear n0_ n1_; (try clear hb); (try clear hb2); (try clear hk); (try clear hi)) | (go_at_call 18; (with_reducible refine (kauditlaw37_begun.calls k3  t269 _ ?side1 A90.out).mono ?_); (case side1 => refine GL.below HGL.out ?_; repeat (first | (with_reducible first | exact HB.out | apply below_alloc | apply pw_below_drewN | apply below_drew1 | refine below_set ?_ GE213.out) | exact HB.out)); rintro e w93 ⟨rfl, hb⟩; have n0_ := Aside0.mk (blk_below (g := gb213) (o := .cells #[.string a3_0, .int .i64 a3_1, .int .i64 a3_2, .string a3_3] 34 (0, 0)) (by (with_reducible repeat (first | refine blk_drewN ?_ _ | refine blk_drew ?_ | refine blk_alloc ?_ _)); exact BK213.out) hb); have n1_ := Aside0.mk (below_step (by repeat (first | (with_reducible first | exact HB.out | apply below_alloc | apply pw_below_drewN | apply below_drew1 | refine below_set ?_ GE213.out) | exact HB.out)) hb); clear BK213; clear HB; have BK213 := n0_; have HB := n1_; clear n0_ n1_; (try clear hb); (try clear hb2); (try clear hk); (try clear hi)))
                      go_ret
                      exact ⟨by first | rfl | (simp [errW_none, errW_some] <;> rfl) | (simp [*, errW_none, errW_some] <;> rfl) | (simp only [isEmpty_ne_, isEmpty_eq_]; rfl) | (simp [*, isEmpty_ne_, isEmpty_eq_]; done), by repeat (first | (with_reducible first | exact HB.out | apply below_alloc | apply pw_below_drewN | apply below_drew1 | refine below_set ?_ GE213.out) | exact HB.out)⟩
                    · rw [if_neg c89] at H
                      have c89b0 : (t267.toList == t268.toList) = false := beq_eq_false_iff_ne.mpr c89
                      have c89b1 : (t267.toList != t268.toList) = true := bne_iff_ne.mpr c89
                      obtain rfl := Option.some.inj H
                      go_wp2_with (first | ((with_reducible refine gate_callee (f := 27) rfl ?_); refine goesL_ (some 99) rfl rfl Tryd.func27 (by kernel_rfl) rfl #[.int .i64 a4] rfl (by (try simp only [List.map_toArray, List.map_cons, List.map_nil]); first | done | rfl | (simp only [List.length_drop, List.length_take]; rfl)) ?_; (with_reducible refine (names_ErrorName.calls a4 t267 _ A87.out).mono ?_); rintro e w94 ⟨rfl, hb⟩; refine ⟨_, rfl, ?_⟩; have n0_ := Aside0.mk (blk_below (g := gb213) (o := .cells #[.string a3_0, .int .i64 a3_1, .int .i64 a3_2, .string a3_3] 34 (0, 0)) (by (with_reducible repeat (first | refine blk_drewN ?_ _ | refine blk_drew ?_ | refine blk_alloc ?_ _)); exact BK213.out) hb); have n1_ := Aside0.mk (below_step (by repeat (first | (with_reducible first | exact HB.out | apply below_alloc | apply pw_below_drewN | apply below_drew1 | refine below_set ?_ GE213.out) | exact HB.out)) hb); clear BK213; clear HB; have BK213 := n0_; have HB := n1_; clear n0_ n1_; (try clear hb); (try clear hb2); (try clear hk); (try clear hi)) | ((with_reducible refine gate_callee (f := 28) rfl ?_); refine goesL_ (some 101) rfl rfl Tryd.func28 (by kernel_rfl) rfl #[.int .i64 a4] rfl (by (try simp only [List.map_toArray, List.map_cons, List.map_nil]); first | done | rfl | (simp only [List.length_drop, List.length_take]; rfl)) ?_; (with_reducible refine (kauditref37_ErrorName.calls k3 a4 t268 _ A88.out).mono ?_); rintro e w95 ⟨rfl, hb⟩; refine ⟨_, rfl, ?_⟩; have n0_ := Aside0.mk (blk_below (g := gb213) (o := .cells #[.string a3_0, .int .i64 a3_1, .int .i64 a3_2, .string a3_3] 34 (0, 0)) (by (with_reducible repeat (first | refine blk_drewN ?_ _ | refine blk_drew ?_ | refine blk_alloc ?_ _)); exact BK213.out) hb); have n1_ := Aside0.mk (below_step (by repeat (first | (with_reducible first | exact HB.out | apply below_alloc | apply pw_below_drewN | apply below_drew1 | refine below_set ?_ GE213.out) | exact HB.out)) hb); clear BK213; clear HB; have BK213 := n0_; have HB := n1_; clear n0_ n1_; (try clear hb); (try clear hb2); (try clear hk); (try clear hi)))
                      go_ret
                      exact ⟨by first | rfl | (simp [errW_none, errW_some] <;> rfl) | (simp [*, errW_none, errW_some] <;> rfl) | (simp only [isEmpty_ne_, isEmpty_eq_]; rfl) | (simp [*, isEmpty_ne_, isEmpty_eq_]; done), by repeat (first | (with_reducible first | exact HB.out | apply below_alloc | apply pw_below_drewN | apply below_drew1 | refine below_set ?_ GE213.out) | exact HB.out)⟩

end Go.Proofs.YtjnlmmjadlidlaaDoor.PNames
