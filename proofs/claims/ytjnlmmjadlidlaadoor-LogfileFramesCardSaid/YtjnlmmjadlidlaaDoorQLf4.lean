/-
  A part of the proof of this: LogfileFrames holds for every input: frames and heads are the same bytes as the reference says, or the same error; no condition.
-/
import Derived.Test.YtjnlmmjadlidlaaDoorQLf3
section
namespace Go.Proofs.YtjnlmmjadlidlaaDoor.PRec
open Go.RowKit Go.Proofs.YtjnlmmjadlidlaaDoorW.PrintWords Go.Proofs.YtjnlmmjadlidlaaDoorW.PrintLast Go.Proofs.YtjnlmmjadlidlaaDoorW.PrintMore
attribute [local go_sem] max2_int min2_int max_two min_two max_three min_three max_four min_four
set_option linter.unusedVariables false
set_option linter.unusedSimpArgs false
attribute [local go_sem high] eqA137
mutual
def logfile_Check.j0 : Nat → Int → Int → Int → Int → Int → List (S50) → Bool → Int → Int → Int → Int → ByteArray → Int → Int → List Int → Option (Int)
  | 0, _, _, _, _, _, _, _, _, _, _, _, _, _, _, _ => none
  | k + 1, x3, x578000, x578001, x578002, x578003, x578004, x578005, x578006, x578007, x578008, x578009, x578010, x578011, x578012, x578013 => if x3 = 0 then (if x578001 = 0 then (if x578002 = 0 then (if x578003 = 0 then (if x578005 = true then (logfile_Check.j1 k false x578000 x578001 x578002 x578003 x578004 x578005 x578006 x578007 x578008 x578009 x578010 x578011 x578012 x578013 x578010 x578011 x578012 x578013) else (logfile_Check.j1 k ((x578004.length : Int) == 0) x578000 x578001 x578002 x578003 x578004 x578005 x578006 x578007 x578008 x578009 x578010 x578011 x578012 x578013 x578010 x578011 x578012 x578013)) else (logfile_Check.j1 k false x578000 x578001 x578002 x578003 x578004 x578005 x578006 x578007 x578008 x578009 x578010 x578011 x578012 x578013 x578010 x578011 x578012 x578013)) else (logfile_Check.j1 k false x578000 x578001 x578002 x578003 x578004 x578005 x578006 x578007 x578008 x578009 x578010 x578011 x578012 x578013 x578010 x578011 x578012 x578013)) else (logfile_Check.j1 k false x578000 x578001 x578002 x578003 x578004 x578005 x578006 x578007 x578008 x578009 x578010 x578011 x578012 x578013 x578010 x578011 x578012 x578013)) else (some x3)
def logfile_Check.j1 : Nat → Bool → Int → Int → Int → Int → List (S50) → Bool → Int → Int → Int → Int → ByteArray → Int → Int → List Int → ByteArray → Int → Int → List Int → Option (Int)
  | 0, _, _, _, _, _, _, _, _, _, _, _, _, _, _, _, _, _, _, _ => none
  | k + 1, x6, x578000, x578001, x578002, x578003, x578004, x578005, x578006, x578007, x578008, x578009, x578010, x578011, x578012, x578013, x583000, x583001, x583002, x583003 => if x583000.toList = ([] : List UInt8) then (if x583001 = 0 then (if x583002 = 0 then (logfile_Check.j2 k x6 ((x583003.length : Int) == 0) x578000 x578001 x578002 x578003 x578004 x578005 x578006 x578007 x578008 x578009 x578010 x578011 x578012 x578013) else (logfile_Check.j2 k x6 false x578000 x578001 x578002 x578003 x578004 x578005 x578006 x578007 x578008 x578009 x578010 x578011 x578012 x578013)) else (logfile_Check.j2 k x6 false x578000 x578001 x578002 x578003 x578004 x578005 x578006 x578007 x578008 x578009 x578010 x578011 x578012 x578013)) else (logfile_Check.j2 k x6 false x578000 x578001 x578002 x578003 x578004 x578005 x578006 x578007 x578008 x578009 x578010 x578011 x578012 x578013)
def logfile_Check.j2 : Nat → Bool → Bool → Int → Int → Int → Int → List (S50) → Bool → Int → Int → Int → Int → ByteArray → Int → Int → List Int → Option (Int)
  | 0, _, _, _, _, _, _, _, _, _, _, _, _, _, _, _, _ => none
  | k + 1, x6, x7, x578000, x578001, x578002, x578003, x578004, x578005, x578006, x578007, x578008, x578009, x578010, x578011, x578012, x578013 => if x578000 = 1 then (if x578000 = 2 then (if x578000 = 3 then (logfile_Check.j3 k false) else (logfile_Check.j3 k (!x7))) else (if (!(x578006 == 0) || (!(x578007 == 0) || (!(x578008 == 0) || (!(x578009 == 0))))) = true then (logfile_Check.j3 k true) else (if x578000 = 3 then (logfile_Check.j3 k false) else (logfile_Check.j3 k (!x7))))) else (if x6 = true then (if x578000 = 2 then (if x578000 = 3 then (logfile_Check.j3 k false) else (logfile_Check.j3 k (!x7))) else (if (!(x578006 == 0) || (!(x578007 == 0) || (!(x578008 == 0) || (!(x578009 == 0))))) = true then (logfile_Check.j3 k true) else (if x578000 = 3 then (logfile_Check.j3 k false) else (logfile_Check.j3 k (!x7))))) else (logfile_Check.j3 k true))
def logfile_Check.j3 : Nat → Bool → Option (Int)
  | 0, _ => none
  | k + 1, x101 => if x101 = true then (some 250) else (some 0)
end
def logfile_Check.f (k : Nat) (a0_0 : Int) (a0_1 : Int) (a0_2 : Int) (a0_3 : Int) (l0_4 : List (S50)) (a0_5 : Bool) (a0_6 : Int) (a0_7 : Int) (a0_8 : Int) (a0_9 : Int) (a0_10 : ByteArray) (a0_11 : Int) (a0_12 : Int) (l0_13 : List Int) : Option (Int) := if a0_0 = 1 then ((logfile_CheckEvent.f k a0_1 a0_2 a0_3 l0_4 a0_5).bind fun t578 => (logfile_Check.j0 k t578 a0_0 a0_1 a0_2 a0_3 l0_4 a0_5 a0_6 a0_7 a0_8 a0_9 a0_10 a0_11 a0_12 l0_13)) else (if a0_0 = 2 then ((logfile_checkMark.f a0_6 a0_7 a0_8 a0_9).bind fun t579 => (logfile_Check.j0 k t579 a0_0 a0_1 a0_2 a0_3 l0_4 a0_5 a0_6 a0_7 a0_8 a0_9 a0_10 a0_11 a0_12 l0_13)) else (if a0_0 = 3 then ((logfile_checkRemote.f k a0_10 a0_11 a0_12 l0_13).bind fun t580 => (logfile_Check.j0 k t580 a0_0 a0_1 a0_2 a0_3 l0_4 a0_5 a0_6 a0_7 a0_8 a0_9 a0_10 a0_11 a0_12 l0_13)) else (logfile_Check.j0 k 250 a0_0 a0_1 a0_2 a0_3 l0_4 a0_5 a0_6 a0_7 a0_8 a0_9 a0_10 a0_11 a0_12 l0_13)))
theorem logfile_Check.mono_l : ∀ k, (∀ y0 y1 y2 y3 y4 y5 y6 y7 y8 y9 y10 y11 y12 y13 y14, LeO (logfile_Check.j0 k y0 y1 y2 y3 y4 y5 y6 y7 y8 y9 y10 y11 y12 y13 y14) (logfile_Check.j0 (k + 1) y0 y1 y2 y3 y4 y5 y6 y7 y8 y9 y10 y11 y12 y13 y14)) ∧ (∀ y0 y1 y2 y3 y4 y5 y6 y7 y8 y9 y10 y11 y12 y13 y14 y15 y16 y17 y18, LeO (logfile_Check.j1 k y0 y1 y2 y3 y4 y5 y6 y7 y8 y9 y10 y11 y12 y13 y14 y15 y16 y17 y18) (logfile_Check.j1 (k + 1) y0 y1 y2 y3 y4 y5 y6 y7 y8 y9 y10 y11 y12 y13 y14 y15 y16 y17 y18)) ∧ (∀ y0 y1 y2 y3 y4 y5 y6 y7 y8 y9 y10 y11 y12 y13 y14 y15, LeO (logfile_Check.j2 k y0 y1 y2 y3 y4 y5 y6 y7 y8 y9 y10 y11 y12 y13 y14 y15) (logfile_Check.j2 (k + 1) y0 y1 y2 y3 y4 y5 y6 y7 y8 y9 y10 y11 y12 y13 y14 y15)) ∧ (∀ y0, LeO (logfile_Check.j3 k y0) (logfile_Check.j3 (k + 1) y0))
  | 0 => ⟨fun _ _ _ _ _ _ _ _ _ _ _ _ _ _ _ r h => by simp [logfile_Check.j0] at h, fun _ _ _ _ _ _ _ _ _ _ _ _ _ _ _ _ _ _ _ r h => by simp [logfile_Check.j1] at h, fun _ _ _ _ _ _ _ _ _ _ _ _ _ _ _ _ r h => by simp [logfile_Check.j2] at h, fun _ r h => by simp [logfile_Check.j3] at h⟩
  | k + 1 => by
    obtain ⟨ih0, ih1, ih2, ih3⟩ := logfile_Check.mono_l k
    refine ⟨?_, ?_, ?_, ?_⟩
    · intro y0 y1 y2 y3 y4 y5 y6 y7 y8 y9 y10 y11 y12 y13 y14
      unfold logfile_Check.j0
      repeat' first
      | (with_reducible exact ih0 _ _ _ _ _ _ _ _ _ _ _ _ _ _ _)
      | (with_reducible exact ih1 _ _ _ _ _ _ _ _ _ _ _ _ _ _ _ _ _ _ _)
      | (with_reducible exact ih2 _ _ _ _ _ _ _ _ _ _ _ _ _ _ _ _)
      | (with_reducible exact ih3 _)
      | (with_reducible exact logfile_CheckEvent.mono _ _ _ _ _ _)
      | (with_reducible exact logfile_checkRemote.mono _ _ _ _ _)
      | (with_reducible exact LeO.refl _)
      | (with_reducible exact LeO.none _)
      | (with_reducible refine LeO.ite ?_ ?_)
      | (with_reducible refine LeO.bind ?_ (fun _ => ?_))
      | exact ih0 _ _ _ _ _ _ _ _ _ _ _ _ _ _ _
      | exact ih1 _ _ _ _ _ _ _ _ _ _ _ _ _ _ _ _ _ _ _
      | exact ih2 _ _ _ _ _ _ _ _ _ _ _ _ _ _ _ _
      | exact ih3 _
      | exact logfile_CheckEvent.mono _ _ _ _ _ _
      | exact logfile_checkRemote.mono _ _ _ _ _
      | exact LeO.none _
      | refine LeO.ite ?_ ?_
      | refine LeO.bind ?_ (fun _ => ?_)
    · intro y0 y1 y2 y3 y4 y5 y6 y7 y8 y9 y10 y11 y12 y13 y14 y15 y16 y17 y18
      unfold logfile_Check.j1
      repeat' first
      | (with_reducible exact ih0 _ _ _ _ _ _ _ _ _ _ _ _ _ _ _)
      | (with_reducible exact ih1 _ _ _ _ _ _ _ _ _ _ _ _ _ _ _ _ _ _ _)
      | (with_reducible exact ih2 _ _ _ _ _ _ _ _ _ _ _ _ _ _ _ _)
      | (with_reducible exact ih3 _)
      | (with_reducible exact logfile_CheckEvent.mono _ _ _ _ _ _)
      | (with_reducible exact logfile_checkRemote.mono _ _ _ _ _)
      | (with_reducible exact LeO.refl _)
      | (with_reducible exact LeO.none _)
      | (with_reducible refine LeO.ite ?_ ?_)
      | (with_reducible refine LeO.bind ?_ (fun _ => ?_))
      | exact ih0 _ _ _ _ _ _ _ _ _ _ _ _ _ _ _
      | exact ih1 _ _ _ _ _ _ _ _ _ _ _ _ _ _ _ _ _ _ _
      | exact ih2 _ _ _ _ _ _ _ _ _ _ _ _ _ _ _ _
      | exact ih3 _
      | exact logfile_CheckEvent.mono _ _ _ _ _ _
      | exact logfile_checkRemote.mono _ _ _ _ _
      | exact LeO.none _
      | refine LeO.ite ?_ ?_
      | refine LeO.bind ?_ (fun _ => ?_)
    · intro y0 y1 y2 y3 y4 y5 y6 y7 y8 y9 y10 y11 y12 y13 y14 y15
      unfold logfile_Check.j2
      repeat' first
      | (with_reducible exact ih0 _ _ _ _ _ _ _ _ _ _ _ _ _ _ _)
      | (with_reducible exact ih1 _ _ _ _ _ _ _ _ _ _ _ _ _ _ _ _ _ _ _)
      | (with_reducible exact ih2 _ _ _ _ _ _ _ _ _ _ _ _ _ _ _ _)
      | (with_reducible exact ih3 _)
      | (with_reducible exact logfile_CheckEvent.mono _ _ _ _ _ _)
      | (with_reducible exact logfile_checkRemote.mono _ _ _ _ _)
      | (with_reducible exact LeO.refl _)
      | (with_reducible exact LeO.none _)
      | (with_reducible refine LeO.ite ?_ ?_)
      | (with_reducible refine LeO.bind ?_ (fun _ => ?_))
      | exact ih0 _ _ _ _ _ _ _ _ _ _ _ _ _ _ _
      | exact ih1 _ _ _ _ _ _ _ _ _ _ _ _ _ _ _ _ _ _ _
      | exact ih2 _ _ _ _ _ _ _ _ _ _ _ _ _ _ _ _
      | exact ih3 _
      | exact logfile_CheckEvent.mono _ _ _ _ _ _
      | exact logfile_checkRemote.mono _ _ _ _ _
      | exact LeO.none _
      | refine LeO.ite ?_ ?_
      | refine LeO.bind ?_ (fun _ => ?_)
    · intro y0
      unfold logfile_Check.j3
      repeat' first
      | (with_reducible exact ih0 _ _ _ _ _ _ _ _ _ _ _ _ _ _ _)
      | (with_reducible exact ih1 _ _ _ _ _ _ _ _ _ _ _ _ _ _ _ _ _ _ _)
      | (with_reducible exact ih2 _ _ _ _ _ _ _ _ _ _ _ _ _ _ _ _)
      | (with_reducible exact ih3 _)
      | (with_reducible exact logfile_CheckEvent.mono _ _ _ _ _ _)
      | (with_reducible exact logfile_checkRemote.mono _ _ _ _ _)
      | (with_reducible exact LeO.refl _)
      | (with_reducible exact LeO.none _)
      | (with_reducible refine LeO.ite ?_ ?_)
      | (with_reducible refine LeO.bind ?_ (fun _ => ?_))
      | exact ih0 _ _ _ _ _ _ _ _ _ _ _ _ _ _ _
      | exact ih1 _ _ _ _ _ _ _ _ _ _ _ _ _ _ _ _ _ _ _
      | exact ih2 _ _ _ _ _ _ _ _ _ _ _ _ _ _ _ _
      | exact ih3 _
      | exact logfile_CheckEvent.mono _ _ _ _ _ _
      | exact logfile_checkRemote.mono _ _ _ _ _
      | exact LeO.none _
      | refine LeO.ite ?_ ?_
      | refine LeO.bind ?_ (fun _ => ?_)
theorem logfile_Check.mono : ∀ a0 a1 a2 a3 a4 a5 a6 a7 a8 a9 a10 a11 a12 a13 k, LeO (logfile_Check.f k a0 a1 a2 a3 a4 a5 a6 a7 a8 a9 a10 a11 a12 a13) (logfile_Check.f (k + 1) a0 a1 a2 a3 a4 a5 a6 a7 a8 a9 a10 a11 a12 a13) := by
  intro a0 a1 a2 a3 a4 a5 a6 a7 a8 a9 a10 a11 a12 a13 k
  obtain ⟨ih0, ih1, ih2, ih3⟩ := logfile_Check.mono_l k
  unfold logfile_Check.f
  repeat' first
      | (with_reducible exact ih0 _ _ _ _ _ _ _ _ _ _ _ _ _ _ _)
      | (with_reducible exact ih1 _ _ _ _ _ _ _ _ _ _ _ _ _ _ _ _ _ _ _)
      | (with_reducible exact ih2 _ _ _ _ _ _ _ _ _ _ _ _ _ _ _ _)
      | (with_reducible exact ih3 _)
      | (with_reducible exact logfile_CheckEvent.mono _ _ _ _ _ _)
      | (with_reducible exact logfile_checkRemote.mono _ _ _ _ _)
      | (with_reducible exact LeO.refl _)
      | (with_reducible exact LeO.none _)
      | (with_reducible refine LeO.ite ?_ ?_)
      | (with_reducible refine LeO.bind ?_ (fun _ => ?_))
      | exact ih0 _ _ _ _ _ _ _ _ _ _ _ _ _ _ _
      | exact ih1 _ _ _ _ _ _ _ _ _ _ _ _ _ _ _ _ _ _ _
      | exact ih2 _ _ _ _ _ _ _ _ _ _ _ _ _ _ _ _
      | exact ih3 _
      | exact logfile_CheckEvent.mono _ _ _ _ _ _
      | exact logfile_checkRemote.mono _ _ _ _ _
      | exact LeO.none _
      | refine LeO.ite ?_ ?_
      | refine LeO.bind ?_ (fun _ => ?_)
def logfile_Check.T12 : Bool × List (List Nat × List Nat) := (true, [([], []), ([0], [0]), ([], []), ([2], [2]), ([], []), ([], []), ([4, 1, 0, 1, 4, 5], [1, 4]), ([5, 3, 6, 0, 1, 2, 3, 4, 5, 6], [3, 5])])
def logfile_Check.B12 : List Nat := [0, 1, 0, 4, 0, 0, 51, 127]
theorem logfile_Check.tab12 : rtab .any (opsOf Tryd.f126 12) = logfile_Check.T12 := by kernel_rfl
theorem logfile_Check.bits12 : waitsOk logfile_Check.T12.2 logfile_Check.B12 = true := by kernel_rfl
set_option maxHeartbeats 8000000 in
set_option maxRecDepth 100000 in
theorem logfile_Check.callsK (k : Nat) (a0_0 : Int) (a0_1 : Int) (a0_2 : Int) (a0_3 : Int) (A0_4 : Option Addr) (c0_4 : Nat) (l0_4 : List (S50)) (a0_5 : Bool) (a0_6 : Int) (a0_7 : Int) (a0_8 : Int) (a0_9 : Int) (a0_10 : ByteArray) (a0_11 : Int) (a0_12 : Int) (A0_13 : Option Addr) (c0_13 : Nat) (l0_13 : List Int) (r : Int) (w : World) (hr0_4 : Kd.C k50 w A0_4 l0_4.length l0_4) (hc0_4 : l0_4.length ≤ c0_4) (hr0_13 : Kd.C (Kd.int .u8) w A0_13 l0_13.length l0_13) (hc0_13 : l0_13.length ≤ c0_13) (hG : GL w) (hhk0 : a0_0 = 2) (hhk1 : a0_1 = 0) (hhk2 : a0_2 = 0) (hhk3 : a0_3 = 0) (hhk4 : a0_5 = false) (hhk5 : a0_10.toList = ([] : List UInt8)) (hhk6 : a0_11 = 0) (hhk7 : a0_12 = 0) (h : logfile_Check.f k a0_0 a0_1 a0_2 a0_3 l0_4 a0_5 a0_6 a0_7 a0_8 a0_9 a0_10 a0_11 a0_12 l0_13 = some r) :
    Calls Tryd.prog 126 #[.agg #[.int .i64 a0_0, .int .i64 a0_1, .int .i64 a0_2, .int .i64 a0_3, .slice A0_4 l0_4.length c0_4, .bool a0_5, .int .i64 a0_6, .int .i64 a0_7, .int .i64 a0_8, .int .i64 a0_9, .string a0_10, .int .i64 a0_11, .int .i64 a0_12, .slice A0_13 l0_13.length c0_13]] w fun e w' => e = .returned (.int .i64 r) ∧ Below w.heap.size w w' := by
  have HK0 := Aside0.mk hhk0
  have HK1 := Aside0.mk hhk1
  have HK2 := Aside0.mk hhk2
  have HK3 := Aside0.mk hhk3
  have HK4 := Aside0.mk hhk4
  have HK5 := Aside0.mk hhk5
  have HK6 := Aside0.mk hhk6
  have HK7 := Aside0.mk hhk7
  clear hhk0 hhk1 hhk2 hhk3 hhk4 hhk5 hhk6 hhk7
  have hu141 := Tryd.underlying141
  have hu86 := Tryd.underlying86
  have hu137 := Tryd.underlying137
  have hu139 := Tryd.underlying139
  have HR0_4 := Aside0.mk hr0_4
  have HC0_4 := Aside0.mk hc0_4
  clear hr0_4 hc0_4
  have HR0_13 := Aside0.mk hr0_13
  have HC0_13 := Aside0.mk hc0_13
  clear hr0_13 hc0_13
  have HB := Aside0.mk (Below.refl w.heap.size w)
  have HGL := Aside0.mk hG
  clear hG
  have H : (if a0_0 = 1 then ((logfile_CheckEvent.f k a0_1 a0_2 a0_3 l0_4 a0_5).bind fun t578 => (logfile_Check.j0 k t578 a0_0 a0_1 a0_2 a0_3 l0_4 a0_5 a0_6 a0_7 a0_8 a0_9 a0_10 a0_11 a0_12 l0_13)) else (if a0_0 = 2 then ((logfile_checkMark.f a0_6 a0_7 a0_8 a0_9).bind fun t579 => (logfile_Check.j0 k t579 a0_0 a0_1 a0_2 a0_3 l0_4 a0_5 a0_6 a0_7 a0_8 a0_9 a0_10 a0_11 a0_12 l0_13)) else (if a0_0 = 3 then ((logfile_checkRemote.f k a0_10 a0_11 a0_12 l0_13).bind fun t580 => (logfile_Check.j0 k t580 a0_0 a0_1 a0_2 a0_3 l0_4 a0_5 a0_6 a0_7 a0_8 a0_9 a0_10 a0_11 a0_12 l0_13)) else (logfile_Check.j0 k 250 a0_0 a0_1 a0_2 a0_3 l0_4 a0_5 a0_6 a0_7 a0_8 a0_9 a0_10 a0_11 a0_12 l0_13)))) = some r := h
  clear h
  have HC2 := Aside0.mk H
  clear H
  go_enter Tryd.func126, Tryd.ntmps126
  go_upto_block 0 with (first | ((with_reducible refine gate_dst (N := 1) rfl ?_); (try (refine gate_guard (by rfl) ?_; dsimp only)); refine box_event ?hg (N := 1) ?hd (cs := #[.int .i64 a0_0, .int .i64 a0_1, .int .i64 a0_2, .int .i64 a0_3, .slice A0_4 l0_4.length c0_4, .bool a0_5, .int .i64 a0_6, .int .i64 a0_7, .int .i64 a0_8, .int .i64 a0_9, .string a0_10, .int .i64 a0_11, .int .i64 a0_12, .slice A0_13 l0_13.length c0_13]) (t := 141) ?hr ?_; (case hd => rfl); (case hg => rfl); (case hr => first | (go_simp; done) | (go_simp; rfl)); intro gb577 hg w3 hbox hb; have n0_ := Aside0.mk (below_step (by repeat (first | (with_reducible first | exact HB.out | apply below_alloc | apply pw_below_drewN | apply below_drew1) | exact HB.out)) hb); have n1_ := Aside0.mk (hbox); have n2_ := Aside0.mk ((by rw [hg]; exact (below_size (by repeat (first | (with_reducible first | exact HB.out | apply below_alloc | apply pw_below_drewN | apply below_drew1) | exact HB.out))) : w.heap.size ≤ gb577)); have n3_ := Aside0.mk ((by rw [hg]; exact (below_size (by repeat (first | (with_reducible first | exact HB.out | apply below_alloc | apply pw_below_drewN | apply below_drew1) | exact HB.out))) : w.heap.size ≤ gb577)); clear HB; have HB := n0_; have BK577 := n1_; have GW577 := n2_; have GE577 := n3_; clear n0_ n1_ n2_ n3_; clear hb hbox hg; have hcz4_0 : w3.cell? ⟨gb577, 0, none⟩ = some (.int .i64 a0_0) := (blk_cell BK577.out 0).trans rfl; have hcz4_1 : w3.cell? ⟨gb577, 1, none⟩ = some (.int .i64 a0_1) := (blk_cell BK577.out 1).trans rfl; have hcz4_2 : w3.cell? ⟨gb577, 2, none⟩ = some (.int .i64 a0_2) := (blk_cell BK577.out 2).trans rfl; have hcz4_3 : w3.cell? ⟨gb577, 3, none⟩ = some (.int .i64 a0_3) := (blk_cell BK577.out 3).trans rfl; have hcz4_4 : w3.cell? ⟨gb577, 4, none⟩ = some (.slice A0_4 l0_4.length c0_4) := (blk_cell BK577.out 4).trans rfl; have hcz4_5 : w3.cell? ⟨gb577, 5, none⟩ = some (.bool a0_5) := (blk_cell BK577.out 5).trans rfl; have hcz4_6 : w3.cell? ⟨gb577, 6, none⟩ = some (.int .i64 a0_6) := (blk_cell BK577.out 6).trans rfl; have hcz4_7 : w3.cell? ⟨gb577, 7, none⟩ = some (.int .i64 a0_7) := (blk_cell BK577.out 7).trans rfl; have hcz4_8 : w3.cell? ⟨gb577, 8, none⟩ = some (.int .i64 a0_8) := (blk_cell BK577.out 8).trans rfl; have hcz4_9 : w3.cell? ⟨gb577, 9, none⟩ = some (.int .i64 a0_9) := (blk_cell BK577.out 9).trans rfl; have hcz4_10 : w3.cell? ⟨gb577, 10, none⟩ = some (.string a0_10) := (blk_cell BK577.out 10).trans rfl; have hcz4_11 : w3.cell? ⟨gb577, 11, none⟩ = some (.int .i64 a0_11) := (blk_cell BK577.out 11).trans rfl; have hcz4_12 : w3.cell? ⟨gb577, 12, none⟩ = some (.int .i64 a0_12) := (blk_cell BK577.out 12).trans rfl; have hcz4_13 : w3.cell? ⟨gb577, 13, none⟩ = some (.slice A0_13 l0_13.length c0_13) := (blk_cell BK577.out 13).trans rfl; have hfz4_0 := blk_frozen BK577.out 0; have hfz4_1 := blk_frozen BK577.out 1; have hfz4_2 := blk_frozen BK577.out 2; have hfz4_3 := blk_frozen BK577.out 3; have hfz4_4 := blk_frozen BK577.out 4; have hfz4_5 := blk_frozen BK577.out 5; have hfz4_6 := blk_frozen BK577.out 6; have hfz4_7 := blk_frozen BK577.out 7; have hfz4_8 := blk_frozen BK577.out 8; have hfz4_9 := blk_frozen BK577.out 9; have hfz4_10 := blk_frozen BK577.out 10; have hfz4_11 := blk_frozen BK577.out 11; have hfz4_12 := blk_frozen BK577.out 12; have hfz4_13 := blk_frozen BK577.out 13))
  (try simp only [Act.put, List.setIfInBounds_toArray, List.set_cons_zero, List.set_cons_succ])
  go_cut [3] (fun v3 wc => ∃ (kq : Nat) (x3_1 : Int), v3 = .int .i64 x3_1 ∧ Aside0 (logfile_Check.j0 kq x3_1 a0_0 a0_1 a0_2 a0_3 l0_4 a0_5 a0_6 a0_7 a0_8 a0_9 a0_10 a0_11 a0_12 l0_13 = some r) ∧ Aside0 (kq ≤ k) ∧ Aside0 (wc.heap[gb577]? = some (.cells #[.int .i64 a0_0, .int .i64 a0_1, .int .i64 a0_2, .int .i64 a0_3, (.slice A0_4 l0_4.length c0_4), .bool a0_5, .int .i64 a0_6, .int .i64 a0_7, .int .i64 a0_8, .int .i64 a0_9, .string a0_10, .int .i64 a0_11, .int .i64 a0_12, (.slice A0_13 l0_13.length c0_13)] 141 (0, 0))) ∧ Aside0 (Below w.heap.size w wc))
  case first =>
    have H := HC2.out
    clear HC2
    by_cases c5 : a0_0 = 1
    · exact absurd c5 (by rw [HK0.out]; decide)
    · rw [if_neg c5] at H
      have c5b0 : (a0_0 == 1) = false := beq_eq_false_iff_ne.mpr c5
      have c5b1 : (a0_0 != 1) = true := bne_iff_ne.mpr c5
      (first | rw [c5b0] | (simp only [i64_w, i32_w]; rw [c5b0]) | skip)
      by_cases c9 : a0_0 = 2
      · rw [if_pos c9] at H
        have c9b0 : (a0_0 == 2) = true := beq_iff_eq.mpr c9
        have c9b1 : (a0_0 != 2) = false := bne_eq_false_iff_eq.mpr c9
        clear c9
        replace H := Option.bind_eq_some_iff.mp H
        obtain ⟨t579, A100, H⟩ := H
        replace H : (logfile_Check.j0 k t579 a0_0 a0_1 a0_2 a0_3 l0_4 a0_5 a0_6 a0_7 a0_8 a0_9 a0_10 a0_11 a0_12 l0_13) = some r := H
        have A10 := Aside0.mk A100
        clear A100
        have H' := Aside0.mk H
        clear H
        have hcz11_0 : w3.cell? ⟨gb577, 0, none⟩ = some (.int .i64 a0_0) := (blk_cell BK577.out 0).trans rfl
        have hcz11_1 : w3.cell? ⟨gb577, 1, none⟩ = some (.int .i64 a0_1) := (blk_cell BK577.out 1).trans rfl
        have hcz11_2 : w3.cell? ⟨gb577, 2, none⟩ = some (.int .i64 a0_2) := (blk_cell BK577.out 2).trans rfl
        have hcz11_3 : w3.cell? ⟨gb577, 3, none⟩ = some (.int .i64 a0_3) := (blk_cell BK577.out 3).trans rfl
        have hcz11_4 : w3.cell? ⟨gb577, 4, none⟩ = some (.slice A0_4 l0_4.length c0_4) := (blk_cell BK577.out 4).trans rfl
        have hcz11_5 : w3.cell? ⟨gb577, 5, none⟩ = some (.bool a0_5) := (blk_cell BK577.out 5).trans rfl
        have hcz11_6 : w3.cell? ⟨gb577, 6, none⟩ = some (.int .i64 a0_6) := (blk_cell BK577.out 6).trans rfl
        have hcz11_7 : w3.cell? ⟨gb577, 7, none⟩ = some (.int .i64 a0_7) := (blk_cell BK577.out 7).trans rfl
        have hcz11_8 : w3.cell? ⟨gb577, 8, none⟩ = some (.int .i64 a0_8) := (blk_cell BK577.out 8).trans rfl
        have hcz11_9 : w3.cell? ⟨gb577, 9, none⟩ = some (.int .i64 a0_9) := (blk_cell BK577.out 9).trans rfl
        have hcz11_10 : w3.cell? ⟨gb577, 10, none⟩ = some (.string a0_10) := (blk_cell BK577.out 10).trans rfl
        have hcz11_11 : w3.cell? ⟨gb577, 11, none⟩ = some (.int .i64 a0_11) := (blk_cell BK577.out 11).trans rfl
        have hcz11_12 : w3.cell? ⟨gb577, 12, none⟩ = some (.int .i64 a0_12) := (blk_cell BK577.out 12).trans rfl
        have hcz11_13 : w3.cell? ⟨gb577, 13, none⟩ = some (.slice A0_13 l0_13.length c0_13) := (blk_cell BK577.out 13).trans rfl
        have hfz11_0 := blk_frozen BK577.out 0
        have hfz11_1 := blk_frozen BK577.out 1
        have hfz11_2 := blk_frozen BK577.out 2
        have hfz11_3 := blk_frozen BK577.out 3
        have hfz11_4 := blk_frozen BK577.out 4
        have hfz11_5 := blk_frozen BK577.out 5
        have hfz11_6 := blk_frozen BK577.out 6
        have hfz11_7 := blk_frozen BK577.out 7
        have hfz11_8 := blk_frozen BK577.out 8
        have hfz11_9 := blk_frozen BK577.out 9
        have hfz11_10 := blk_frozen BK577.out 10
        have hfz11_11 := blk_frozen BK577.out 11
        have hfz11_12 := blk_frozen BK577.out 12
        have hfz11_13 := blk_frozen BK577.out 13
        go_wp2_with (first | ((with_reducible refine gate_callee (f := 156) rfl ?_); refine goesL_ (some 19) rfl rfl Tryd.func156 (by kernel_rfl) rfl #[.agg #[.int .i64 a0_6, .int .i64 a0_7, .int .i64 a0_8, .int .i64 a0_9]] rfl (by (try simp only [List.map_toArray, List.map_cons, List.map_nil]); first | done | rfl | (simp only [List.length_drop, List.length_take]; rfl)) ?_; (with_reducible refine (logfile_checkMark.calls a0_6 a0_7 a0_8 a0_9 t579 _ A10.out).mono ?_); rintro e w12 ⟨rfl, hb⟩; refine ⟨_, rfl, ?_⟩; have n0_ := Aside0.mk (blk_below (g := gb577) (o := .cells #[.int .i64 a0_0, .int .i64 a0_1, .int .i64 a0_2, .int .i64 a0_3, .slice A0_4 l0_4.length c0_4, .bool a0_5, .int .i64 a0_6, .int .i64 a0_7, .int .i64 a0_8, .int .i64 a0_9, .string a0_10, .int .i64 a0_11, .int .i64 a0_12, .slice A0_13 l0_13.length c0_13] 141 (0, 0)) (by (with_reducible repeat (first | refine blk_drewN ?_ _ | refine blk_drew ?_ | refine blk_alloc ?_ _)); exact BK577.out) hb); have n1_ := Aside0.mk (below_step (by repeat (first | (with_reducible first | exact HB.out | apply below_alloc | apply pw_below_drewN | apply below_drew1 | refine below_set ?_ GE577.out) | exact HB.out)) hb); clear BK577; clear HB; have BK577 := n0_; have HB := n1_; clear n0_ n1_; (try clear hb); (try clear hb2); (try clear hk); (try clear hi)))
        go_meet
        case rel => exact ⟨_, (t579), (by first | rfl | (simp; done) | (simp [*]; done) | (simp only [isEmpty_ne_]; done)), H', ⟨by first | omega | exact Nat.le_refl _⟩, ⟨by (with_reducible repeat (first | refine blk_drewN ?_ _ | refine blk_drew ?_ | refine blk_alloc ?_ _)); exact BK577.out⟩, ⟨by repeat (first | (with_reducible first | exact HB.out | apply below_alloc | apply pw_below_drewN | apply below_drew1 | refine below_set ?_ GE577.out) | exact HB.out)⟩⟩
      · exact absurd HK0.out c9
  case rest =>
    clear HC2
    try clear c1
    try clear p2
    try clear c5
    try clear c5b0
    try clear c5b1
    try clear c9
    try clear c9b0
    try clear c9b1
    try clear c12
    try clear c13
    try clear c13b0
    try clear c13b1
    try clear c15
    try clear hcz11_0
    try clear hcz11_1
    try clear hcz11_10
    try clear hcz11_11
    try clear hcz11_12
    try clear hcz11_13
    try clear hcz11_2
    try clear hcz11_3
    try clear hcz11_4
    try clear hcz11_5
    try clear hcz11_6
    try clear hcz11_7
    try clear hcz11_8
    try clear hcz11_9
    try clear hcz15_0
    try clear hcz15_1
    try clear hcz15_10
    try clear hcz15_11
    try clear hcz15_12
    try clear hcz15_13
    try clear hcz15_2
    try clear hcz15_3
    try clear hcz15_4
    try clear hcz15_5
    try clear hcz15_6
    try clear hcz15_7
    try clear hcz15_8
    try clear hcz15_9
    try clear hcz4_0
    try clear hcz4_1
    try clear hcz4_10
    try clear hcz4_11
    try clear hcz4_12
    try clear hcz4_13
    try clear hcz4_2
    try clear hcz4_3
    try clear hcz4_4
    try clear hcz4_5
    try clear hcz4_6
    try clear hcz4_7
    try clear hcz4_8
    try clear hcz4_9
    try clear hcz7_0
    try clear hcz7_1
    try clear hcz7_10
    try clear hcz7_11
    try clear hcz7_12
    try clear hcz7_13
    try clear hcz7_2
    try clear hcz7_3
    try clear hcz7_4
    try clear hcz7_5
    try clear hcz7_6
    try clear hcz7_7
    try clear hcz7_8
    try clear hcz7_9
    try clear hfz11_0
    try clear hfz11_1
    try clear hfz11_10
    try clear hfz11_11
    try clear hfz11_12
    try clear hfz11_13
    try clear hfz11_2
    try clear hfz11_3
    try clear hfz11_4
    try clear hfz11_5
    try clear hfz11_6
    try clear hfz11_7
    try clear hfz11_8
    try clear hfz11_9
    try clear hfz15_0
    try clear hfz15_1
    try clear hfz15_10
    try clear hfz15_11
    try clear hfz15_12
    try clear hfz15_13
    try clear hfz15_2
    try clear hfz15_3
    try clear hfz15_4
    try clear hfz15_5
    try clear hfz15_6
    try clear hfz15_7
    try clear hfz15_8
    try clear hfz15_9
    try clear hfz4_0
    try clear hfz4_1
    try clear hfz4_10
    try clear hfz4_11
    try clear hfz4_12
    try clear hfz4_13
    try clear hfz4_2
    try clear hfz4_3
    try clear hfz4_4
    try clear hfz4_5
    try clear hfz4_6
    try clear hfz4_7
    try clear hfz4_8
    try clear hfz4_9
    try clear hfz7_0
    try clear hfz7_1
    try clear hfz7_10
    try clear hfz7_11
    try clear hfz7_12
    try clear hfz7_13
    try clear hfz7_2
    try clear hfz7_3
    try clear hfz7_4
    try clear hfz7_5
    try clear hfz7_6
    try clear hfz7_7
    try clear hfz7_8
    try clear hfz7_9
    obtain ⟨kq, x3_1, rfl, HA, HJ1, BK577, HB⟩ := hcut
    cases kq with
    | zero => exact absurd HA.out (by simp [logfile_Check.j0])
    | succ kj1 =>
      have H := HA.out
      clear HA
      simp only [logfile_Check.j0] at H
      by_cases c17 : x3_1 = 0
      · rw [if_pos c17] at H
        have c17b0 : (x3_1 == 0) = true := beq_iff_eq.mpr c17
        have c17b1 : (x3_1 != 0) = false := bne_eq_false_iff_eq.mpr c17
        clear c17
        have HC18 := Aside0.mk H
        clear H
        try go_wp2
        have n0_ := Aside0.mk (blk_drew BK577.out)
        have n1_ := Aside0.mk (below_drew1 HB.out)
        clear BK577
        clear HB
        have BK577 := n0_
        have HB := n1_
        clear n0_ n1_
        refine start_ (n := 8) (S := fun w' => w'.cell? ⟨gb577, 0, none⟩ = some (.int .i64 a0_0) ∧ w'.cell? ⟨gb577, 1, none⟩ = some (.int .i64 a0_1) ∧ w'.cell? ⟨gb577, 2, none⟩ = some (.int .i64 a0_2) ∧ w'.cell? ⟨gb577, 3, none⟩ = some (.int .i64 a0_3) ∧ w'.cell? ⟨gb577, 4, none⟩ = some (.slice A0_4 l0_4.length c0_4) ∧ w'.cell? ⟨gb577, 5, none⟩ = some (.bool a0_5) ∧ w'.cell? ⟨gb577, 6, none⟩ = some (.int .i64 a0_6) ∧ w'.cell? ⟨gb577, 7, none⟩ = some (.int .i64 a0_7) ∧ w'.cell? ⟨gb577, 8, none⟩ = some (.int .i64 a0_8) ∧ w'.cell? ⟨gb577, 9, none⟩ = some (.int .i64 a0_9) ∧ w'.cell? ⟨gb577, 10, none⟩ = some (.string a0_10) ∧ w'.cell? ⟨gb577, 11, none⟩ = some (.int .i64 a0_11) ∧ w'.cell? ⟨gb577, 12, none⟩ = some (.int .i64 a0_12) ∧ w'.cell? ⟨gb577, 13, none⟩ = some (.slice A0_13 l0_13.length c0_13)) (ds := []) #[false, false, false, false, false, false, false, false] (by kernel_rfl) rfl rfl ⟨(blk_cell BK577.out 0).trans rfl, (blk_cell BK577.out 1).trans rfl, (blk_cell BK577.out 2).trans rfl, (blk_cell BK577.out 3).trans rfl, (blk_cell BK577.out 4).trans rfl, (blk_cell BK577.out 5).trans rfl, (blk_cell BK577.out 6).trans rfl, (blk_cell BK577.out 7).trans rfl, (blk_cell BK577.out 8).trans rfl, (blk_cell BK577.out 9).trans rfl, (blk_cell BK577.out 10).trans rfl, (blk_cell BK577.out 11).trans rfl, (blk_cell BK577.out 12).trans rfl, (blk_cell BK577.out 13).trans rfl⟩ (fun hHeld => ?_); refine with_tabW logfile_Check.tab12 logfile_Check.bits12 (fun HT_ HW_ => ?_)
        generalize wc.drew = w19 at BK577 HB hHeld ⊢
        refine pure_ (i := 0) (N := some 28) (v := ?_) (a' := ?_) #[true, false, false, false, false, false, false, false] rfl rfl (any_of HT_.out (by kernel_rfl)) (fun _ _ _ h => h) (Or.inl ⟨by rfl, ?_⟩) ?_ ?_
        rotate_left
        · intro w'
          go_simp
          with_reducible rfl
        rotate_left
        · simp only [Act.put, List.setIfInBounds_toArray, List.set_cons_zero, List.set_cons_succ, i64_w, i32_w]
          rfl
        refine pure_ (i := 2) (N := some 30) (v := ?_) (a' := ?_) #[true, false, true, false, false, false, false, false] rfl rfl (any_of HT_.out (by kernel_rfl)) (fun _ _ _ h => h) (Or.inl ⟨by rfl, ?_⟩) ?_ ?_
        rotate_left
        · intro w'
          go_simp
          with_reducible rfl
        rotate_left
        · simp only [Act.put, List.setIfInBounds_toArray, List.set_cons_zero, List.set_cons_succ, i64_w, i32_w]
          rfl
        refine take_ (i := 1) (N := some 29) (v := ?_) (a' := ?_) #[true, true, true, false, false, false, false, false] rfl rfl (take_ofW HT_.out HW_.out (by kernel_rfl)) (fun _ _ _ h => h) (Or.inl ⟨by rfl, ?_⟩) hHeld ?_ ?_
        rotate_left
        · rintro w' ⟨s0, s1, s2, s3, s4, s5, s6, s7, s8, s9, s10, s11, s12, s13⟩
          go_simp
          with_reducible rfl
        rotate_left
        · simp only [Act.put, List.setIfInBounds_toArray, List.set_cons_zero, List.set_cons_succ, i64_w, i32_w]
          rfl
        refine take_ (i := 3) (N := some 31) (v := ?_) (a' := ?_) #[true, true, true, true, false, false, false, false] rfl rfl (take_ofW HT_.out HW_.out (by kernel_rfl)) (fun _ _ _ h => h) (Or.inl ⟨by rfl, ?_⟩) hHeld ?_ ?_
        rotate_left
        · rintro w' ⟨s0, s1, s2, s3, s4, s5, s6, s7, s8, s9, s10, s11, s12, s13⟩
          go_simp
          with_reducible rfl
        rotate_left
        · simp only [Act.put, List.setIfInBounds_toArray, List.set_cons_zero, List.set_cons_succ, i64_w, i32_w]
          rfl
        refine join_ (σ := Nat × Nat) 2 #[true, true, true, true, true, true, false, false] (fun s_ => [(4, .pointer (some ⟨s_.1, 0, none⟩)), (5, .pointer (some ⟨s_.2, 0, none⟩))]) (fun s_ w' => (w'.cell? ⟨gb577, 0, none⟩ = some (.int .i64 a0_0) ∧ w'.cell? ⟨gb577, 1, none⟩ = some (.int .i64 a0_1) ∧ w'.cell? ⟨gb577, 2, none⟩ = some (.int .i64 a0_2) ∧ w'.cell? ⟨gb577, 3, none⟩ = some (.int .i64 a0_3) ∧ w'.cell? ⟨gb577, 4, none⟩ = some (.slice A0_4 l0_4.length c0_4) ∧ w'.cell? ⟨gb577, 5, none⟩ = some (.bool a0_5) ∧ w'.cell? ⟨gb577, 6, none⟩ = some (.int .i64 a0_6) ∧ w'.cell? ⟨gb577, 7, none⟩ = some (.int .i64 a0_7) ∧ w'.cell? ⟨gb577, 8, none⟩ = some (.int .i64 a0_8) ∧ w'.cell? ⟨gb577, 9, none⟩ = some (.int .i64 a0_9) ∧ w'.cell? ⟨gb577, 10, none⟩ = some (.string a0_10) ∧ w'.cell? ⟨gb577, 11, none⟩ = some (.int .i64 a0_11) ∧ w'.cell? ⟨gb577, 12, none⟩ = some (.int .i64 a0_12) ∧ w'.cell? ⟨gb577, 13, none⟩ = some (.slice A0_13 l0_13.length c0_13)) ∧ (w'.heap[gb577]? = some (.cells #[.int .i64 a0_0, .int .i64 a0_1, .int .i64 a0_2, .int .i64 a0_3, .slice A0_4 l0_4.length c0_4, .bool a0_5, .int .i64 a0_6, .int .i64 a0_7, .int .i64 a0_8, .int .i64 a0_9, .string a0_10, .int .i64 a0_11, .int .i64 a0_12, .slice A0_13 l0_13.length c0_13] 141 (0, 0))) ∧ (w'.heap[s_.1]? = some (.cells #[.int .i64 0, .int .i64 0, .int .i64 0, .slice none 0 0, .bool false] 86 (0, 0))) ∧ (w'.heap[s_.2]? = some (.cells #[.string (⟨#[]⟩ : ByteArray), .int .i64 0, .int .i64 0, .slice none 0 0] 139 (0, 0))) ∧ (w.heap.size ≤ s_.1) ∧ (w.heap.size ≤ s_.1) ∧ (gb577 ≠ s_.1) ∧ (s_.1 ≠ gb577) ∧ (s_.2 ≠ s_.1) ∧ (s_.1 ≠ s_.2) ∧ (w.heap.size ≤ s_.2) ∧ (w.heap.size ≤ s_.2) ∧ (gb577 ≠ s_.2) ∧ (s_.2 ≠ gb577) ∧ (Below w.heap.size w w')) ?_ ?_
        rotate_left
        · intro hCont
          refine two_ (i := 4) (j := 5) (Ni := some 4) (Nj := some 5) #[true, true, true, true, true, false, false, false] #[true, true, true, true, false, true, false, false] rfl rfl rfl rfl (two_of HT_.out (by kernel_rfl)) (by decide) (by decide) (fun K hK => ?_) (fun K hK => ?_)
          · skip
            refine box_step ?hg (N := 4) ?hd (cs := #[.int .i64 0, .int .i64 0, .int .i64 0, .slice none 0 0, .bool false]) (t := 86) ?hr ?_; (case hd => rfl); (case hg => rfl); (case hr => first | (go_simp; done) | (go_simp; rfl))
            intro gb581 hg w20 hbox hb
            have n0_ := Aside0.mk (blk_below (g := gb577) (o := .cells #[.int .i64 a0_0, .int .i64 a0_1, .int .i64 a0_2, .int .i64 a0_3, .slice A0_4 l0_4.length c0_4, .bool a0_5, .int .i64 a0_6, .int .i64 a0_7, .int .i64 a0_8, .int .i64 a0_9, .string a0_10, .int .i64 a0_11, .int .i64 a0_12, .slice A0_13 l0_13.length c0_13] 141 (0, 0)) (by (with_reducible repeat (first | refine blk_drewN ?_ _ | refine blk_drew ?_ | refine blk_alloc ?_ _)); exact BK577.out) hb)
            have n1_ := Aside0.mk (below_step (by repeat (first | (with_reducible first | exact HB.out | apply below_alloc | apply pw_below_drewN | apply below_drew1 | refine below_set ?_ GE577.out) | exact HB.out)) hb)
            have n2_ := Aside0.mk (hbox)
            have n3_ := Aside0.mk ((by rw [hg]; exact (below_size (by repeat (first | (with_reducible first | exact HB.out | apply below_alloc | apply pw_below_drewN | apply below_drew1 | refine below_set ?_ GE577.out) | exact HB.out))) : w.heap.size ≤ gb581))
            have n4_ := Aside0.mk ((by rw [hg]; exact (below_size (by repeat (first | (with_reducible first | exact HB.out | apply below_alloc | apply pw_below_drewN | apply below_drew1 | refine below_set ?_ GE577.out) | exact HB.out))) : w.heap.size ≤ gb581))
            have n5_ := Aside0.mk ((by rw [hg]; exact Nat.ne_of_lt (blk_lt (g := gb577) (o := .cells #[.int .i64 a0_0, .int .i64 a0_1, .int .i64 a0_2, .int .i64 a0_3, .slice A0_4 l0_4.length c0_4, .bool a0_5, .int .i64 a0_6, .int .i64 a0_7, .int .i64 a0_8, .int .i64 a0_9, .string a0_10, .int .i64 a0_11, .int .i64 a0_12, .slice A0_13 l0_13.length c0_13] 141 (0, 0)) (by (with_reducible repeat (first | refine blk_drewN ?_ _ | refine blk_drew ?_ | refine blk_alloc ?_ _)); exact BK577.out)) : gb577 ≠ gb581))
            have n6_ := Aside0.mk ((by rw [hg]; exact Nat.ne_of_gt (blk_lt (g := gb577) (o := .cells #[.int .i64 a0_0, .int .i64 a0_1, .int .i64 a0_2, .int .i64 a0_3, .slice A0_4 l0_4.length c0_4, .bool a0_5, .int .i64 a0_6, .int .i64 a0_7, .int .i64 a0_8, .int .i64 a0_9, .string a0_10, .int .i64 a0_11, .int .i64 a0_12, .slice A0_13 l0_13.length c0_13] 141 (0, 0)) (by (with_reducible repeat (first | refine blk_drewN ?_ _ | refine blk_drew ?_ | refine blk_alloc ?_ _)); exact BK577.out)) : gb581 ≠ gb577))
            clear BK577
            clear HB
            have BK577 := n0_
            have HB := n1_
            have BK581 := n2_
            have GW581 := n3_
            have GE581 := n4_
            have NB577_581 := n5_
            have NB581_577 := n6_
            clear n0_ n1_ n2_ n3_ n4_ n5_ n6_
            clear hb hbox hg
            refine hK.out _ _ ⟨(blk_cell BK577.out 0).trans rfl, (blk_cell BK577.out 1).trans rfl, (blk_cell BK577.out 2).trans rfl, (blk_cell BK577.out 3).trans rfl, (blk_cell BK577.out 4).trans rfl, (blk_cell BK577.out 5).trans rfl, (blk_cell BK577.out 6).trans rfl, (blk_cell BK577.out 7).trans rfl, (blk_cell BK577.out 8).trans rfl, (blk_cell BK577.out 9).trans rfl, (blk_cell BK577.out 10).trans rfl, (blk_cell BK577.out 11).trans rfl, (blk_cell BK577.out 12).trans rfl, (blk_cell BK577.out 13).trans rfl⟩ (fun hHeld => ?_)
            clear hK K
            refine norm_ (a' := ?_) ?_ ?_
            rotate_left
            · show Act.put _ (some 4) _ = _
              simp only [Act.put, List.setIfInBounds_toArray, List.set_cons_zero, List.set_cons_succ, i64_w, i32_w]
              rfl
            refine one_ (i := 5) (N := some 5) #[true, true, true, true, true, true, false, false] rfl rfl (one_of HT_.out (by kernel_rfl)) (by decide) (fun K hK => ?_)
            refine box_step ?hg (N := 5) ?hd (cs := #[.string (⟨#[]⟩ : ByteArray), .int .i64 0, .int .i64 0, .slice none 0 0]) (t := 139) ?hr ?_; (case hd => rfl); (case hg => rfl); (case hr => first | (go_simp; done) | (go_simp; rfl))
            intro gb582 hg w21 hbox hb
            have n0_ := Aside0.mk (blk_below (g := gb577) (o := .cells #[.int .i64 a0_0, .int .i64 a0_1, .int .i64 a0_2, .int .i64 a0_3, .slice A0_4 l0_4.length c0_4, .bool a0_5, .int .i64 a0_6, .int .i64 a0_7, .int .i64 a0_8, .int .i64 a0_9, .string a0_10, .int .i64 a0_11, .int .i64 a0_12, .slice A0_13 l0_13.length c0_13] 141 (0, 0)) (by (with_reducible repeat (first | refine blk_drewN ?_ _ | refine blk_drew ?_ | refine blk_alloc ?_ _)); exact BK577.out) hb)
            have n1_ := Aside0.mk (blk_below (g := gb581) (o := .cells #[.int .i64 0, .int .i64 0, .int .i64 0, .slice none 0 0, .bool false] 86 (0, 0)) (by (with_reducible repeat (first | refine blk_drewN ?_ _ | refine blk_drew ?_ | refine blk_alloc ?_ _)); exact BK581.out) hb)
            have n2_ := Aside0.mk (below_step (by repeat (first | (with_reducible first | exact HB.out | apply below_alloc | apply pw_below_drewN | apply below_drew1 | refine below_set ?_ GE577.out | refine below_set ?_ GE581.out) | exact HB.out)) hb)
            have n3_ := Aside0.mk (hbox)
            have n4_ := Aside0.mk ((by rw [hg]; exact (below_size (by repeat (first | (with_reducible first | exact HB.out | apply below_alloc | apply pw_below_drewN | apply below_drew1 | refine below_set ?_ GE577.out | refine below_set ?_ GE581.out) | exact HB.out))) : w.heap.size ≤ gb582))
            have n5_ := Aside0.mk ((by rw [hg]; exact (below_size (by repeat (first | (with_reducible first | exact HB.out | apply below_alloc | apply pw_below_drewN | apply below_drew1 | refine below_set ?_ GE577.out | refine below_set ?_ GE581.out) | exact HB.out))) : w.heap.size ≤ gb582))
            have n6_ := Aside0.mk ((by rw [hg]; exact Nat.ne_of_lt (blk_lt (g := gb577) (o := .cells #[.int .i64 a0_0, .int .i64 a0_1, .int .i64 a0_2, .int .i64 a0_3, .slice A0_4 l0_4.length c0_4, .bool a0_5, .int .i64 a0_6, .int .i64 a0_7, .int .i64 a0_8, .int .i64 a0_9, .string a0_10, .int .i64 a0_11, .int .i64 a0_12, .slice A0_13 l0_13.length c0_13] 141 (0, 0)) (by (with_reducible repeat (first | refine blk_drewN ?_ _ | refine blk_drew ?_ | refine blk_alloc ?_ _)); exact BK577.out)) : gb577 ≠ gb582))
            have n7_ := Aside0.mk ((by rw [hg]; exact Nat.ne_of_gt (blk_lt (g := gb577) (o := .cells #[.int .i64 a0_0, .int .i64 a0_1, .int .i64 a0_2, .int .i64 a0_3, .slice A0_4 l0_4.length c0_4, .bool a0_5, .int .i64 a0_6, .int .i64 a0_7, .int .i64 a0_8, .int .i64 a0_9, .string a0_10, .int .i64 a0_11, .int .i64 a0_12, .slice A0_13 l0_13.length c0_13] 141 (0, 0)) (by (with_reducible repeat (first | refine blk_drewN ?_ _ | refine blk_drew ?_ | refine blk_alloc ?_ _)); exact BK577.out)) : gb582 ≠ gb577))
            have n8_ := Aside0.mk ((by rw [hg]; exact Nat.ne_of_lt (blk_lt (g := gb581) (o := .cells #[.int .i64 0, .int .i64 0, .int .i64 0, .slice none 0 0, .bool false] 86 (0, 0)) (by (with_reducible repeat (first | refine blk_drewN ?_ _ | refine blk_drew ?_ | refine blk_alloc ?_ _)); exact BK581.out)) : gb581 ≠ gb582))
            have n9_ := Aside0.mk ((by rw [hg]; exact Nat.ne_of_gt (blk_lt (g := gb581) (o := .cells #[.int .i64 0, .int .i64 0, .int .i64 0, .slice none 0 0, .bool false] 86 (0, 0)) (by (with_reducible repeat (first | refine blk_drewN ?_ _ | refine blk_drew ?_ | refine blk_alloc ?_ _)); exact BK581.out)) : gb582 ≠ gb581))
            clear BK577
            clear BK581
            clear HB
            have BK577 := n0_
            have BK581 := n1_
            have HB := n2_
            have BK582 := n3_
            have GW582 := n4_
            have GE582 := n5_
            have NB577_582 := n6_
            have NB582_577 := n7_
            have NB581_582 := n8_
            have NB582_581 := n9_
            clear n0_ n1_ n2_ n3_ n4_ n5_ n6_ n7_ n8_ n9_
            clear hb hbox hg
            refine hK.out _ _ ⟨(blk_cell BK577.out 0).trans rfl, (blk_cell BK577.out 1).trans rfl, (blk_cell BK577.out 2).trans rfl, (blk_cell BK577.out 3).trans rfl, (blk_cell BK577.out 4).trans rfl, (blk_cell BK577.out 5).trans rfl, (blk_cell BK577.out 6).trans rfl, (blk_cell BK577.out 7).trans rfl, (blk_cell BK577.out 8).trans rfl, (blk_cell BK577.out 9).trans rfl, (blk_cell BK577.out 10).trans rfl, (blk_cell BK577.out 11).trans rfl, (blk_cell BK577.out 12).trans rfl, (blk_cell BK577.out 13).trans rfl⟩ (fun hHeld => ?_)
            clear hK K
            refine norm_ (a' := ?_) ?_ ?_
            rotate_left
            · show Act.put _ (some 5) _ = _
              simp only [Act.put, List.setIfInBounds_toArray, List.set_cons_zero, List.set_cons_succ, i64_w, i32_w]
              rfl
            exact norm_ (by simp only [putAll, Act.put, List.setIfInBounds_toArray, List.set_cons_zero, List.set_cons_succ]) (hCont (gb581, gb582) _ ⟨hHeld, (by (with_reducible repeat (first | refine blk_drewN ?_ _ | refine blk_drew ?_ | refine blk_alloc ?_ _)); exact BK577.out), (by (with_reducible repeat (first | refine blk_drewN ?_ _ | refine blk_drew ?_ | refine blk_alloc ?_ _)); exact BK581.out), (by (with_reducible repeat (first | refine blk_drewN ?_ _ | refine blk_drew ?_ | refine blk_alloc ?_ _)); exact BK582.out), GW581.out, GE581.out, NB577_581.out, NB581_577.out, NB582_581.out, NB581_582.out, GW582.out, GE582.out, NB577_582.out, NB582_577.out, (by repeat (first | (with_reducible first | exact HB.out | apply below_alloc | apply pw_below_drewN | apply below_drew1 | refine below_set ?_ GE577.out | refine below_set ?_ GE581.out | refine below_set ?_ GE582.out) | exact HB.out))⟩)
          · skip
            refine box_step ?hg (N := 5) ?hd (cs := #[.string (⟨#[]⟩ : ByteArray), .int .i64 0, .int .i64 0, .slice none 0 0]) (t := 139) ?hr ?_; (case hd => rfl); (case hg => rfl); (case hr => first | (go_simp; done) | (go_simp; rfl))
            intro gb582 hg w20 hbox hb
            have n0_ := Aside0.mk (blk_below (g := gb577) (o := .cells #[.int .i64 a0_0, .int .i64 a0_1, .int .i64 a0_2, .int .i64 a0_3, .slice A0_4 l0_4.length c0_4, .bool a0_5, .int .i64 a0_6, .int .i64 a0_7, .int .i64 a0_8, .int .i64 a0_9, .string a0_10, .int .i64 a0_11, .int .i64 a0_12, .slice A0_13 l0_13.length c0_13] 141 (0, 0)) (by (with_reducible repeat (first | refine blk_drewN ?_ _ | refine blk_drew ?_ | refine blk_alloc ?_ _)); exact BK577.out) hb)
            have n1_ := Aside0.mk (below_step (by repeat (first | (with_reducible first | exact HB.out | apply below_alloc | apply pw_below_drewN | apply below_drew1 | refine below_set ?_ GE577.out) | exact HB.out)) hb)
            have n2_ := Aside0.mk (hbox)
            have n3_ := Aside0.mk ((by rw [hg]; exact (below_size (by repeat (first | (with_reducible first | exact HB.out | apply below_alloc | apply pw_below_drewN | apply below_drew1 | refine below_set ?_ GE577.out) | exact HB.out))) : w.heap.size ≤ gb582))
            have n4_ := Aside0.mk ((by rw [hg]; exact (below_size (by repeat (first | (with_reducible first | exact HB.out | apply below_alloc | apply pw_below_drewN | apply below_drew1 | refine below_set ?_ GE577.out) | exact HB.out))) : w.heap.size ≤ gb582))
            have n5_ := Aside0.mk ((by rw [hg]; exact Nat.ne_of_lt (blk_lt (g := gb577) (o := .cells #[.int .i64 a0_0, .int .i64 a0_1, .int .i64 a0_2, .int .i64 a0_3, .slice A0_4 l0_4.length c0_4, .bool a0_5, .int .i64 a0_6, .int .i64 a0_7, .int .i64 a0_8, .int .i64 a0_9, .string a0_10, .int .i64 a0_11, .int .i64 a0_12, .slice A0_13 l0_13.length c0_13] 141 (0, 0)) (by (with_reducible repeat (first | refine blk_drewN ?_ _ | refine blk_drew ?_ | refine blk_alloc ?_ _)); exact BK577.out)) : gb577 ≠ gb582))
            have n6_ := Aside0.mk ((by rw [hg]; exact Nat.ne_of_gt (blk_lt (g := gb577) (o := .cells #[.int .i64 a0_0, .int .i64 a0_1, .int .i64 a0_2, .int .i64 a0_3, .slice A0_4 l0_4.length c0_4, .bool a0_5, .int .i64 a0_6, .int .i64 a0_7, .int .i64 a0_8, .int .i64 a0_9, .string a0_10, .int .i64 a0_11, .int .i64 a0_12, .slice A0_13 l0_13.length c0_13] 141 (0, 0)) (by (with_reducible repeat (first | refine blk_drewN ?_ _ | refine blk_drew ?_ | refine blk_alloc ?_ _)); exact BK577.out)) : gb582 ≠ gb577))
            clear BK577
            clear HB
            have BK577 := n0_
            have HB := n1_
            have BK582 := n2_
            have GW582 := n3_
            have GE582 := n4_
            have NB577_582 := n5_
            have NB582_577 := n6_
            clear n0_ n1_ n2_ n3_ n4_ n5_ n6_
            clear hb hbox hg
            refine hK.out _ _ ⟨(blk_cell BK577.out 0).trans rfl, (blk_cell BK577.out 1).trans rfl, (blk_cell BK577.out 2).trans rfl, (blk_cell BK577.out 3).trans rfl, (blk_cell BK577.out 4).trans rfl, (blk_cell BK577.out 5).trans rfl, (blk_cell BK577.out 6).trans rfl, (blk_cell BK577.out 7).trans rfl, (blk_cell BK577.out 8).trans rfl, (blk_cell BK577.out 9).trans rfl, (blk_cell BK577.out 10).trans rfl, (blk_cell BK577.out 11).trans rfl, (blk_cell BK577.out 12).trans rfl, (blk_cell BK577.out 13).trans rfl⟩ (fun hHeld => ?_)
            clear hK K
            refine norm_ (a' := ?_) ?_ ?_
            rotate_left
            · show Act.put _ (some 5) _ = _
              simp only [Act.put, List.setIfInBounds_toArray, List.set_cons_zero, List.set_cons_succ, i64_w, i32_w]
              rfl
            refine one_ (i := 4) (N := some 4) #[true, true, true, true, true, true, false, false] rfl rfl (one_of HT_.out (by kernel_rfl)) (by decide) (fun K hK => ?_)
            refine box_step ?hg (N := 4) ?hd (cs := #[.int .i64 0, .int .i64 0, .int .i64 0, .slice none 0 0, .bool false]) (t := 86) ?hr ?_; (case hd => rfl); (case hg => rfl); (case hr => first | (go_simp; done) | (go_simp; rfl))
            intro gb581 hg w21 hbox hb
            have n0_ := Aside0.mk (blk_below (g := gb577) (o := .cells #[.int .i64 a0_0, .int .i64 a0_1, .int .i64 a0_2, .int .i64 a0_3, .slice A0_4 l0_4.length c0_4, .bool a0_5, .int .i64 a0_6, .int .i64 a0_7, .int .i64 a0_8, .int .i64 a0_9, .string a0_10, .int .i64 a0_11, .int .i64 a0_12, .slice A0_13 l0_13.length c0_13] 141 (0, 0)) (by (with_reducible repeat (first | refine blk_drewN ?_ _ | refine blk_drew ?_ | refine blk_alloc ?_ _)); exact BK577.out) hb)
            have n1_ := Aside0.mk (blk_below (g := gb582) (o := .cells #[.string (⟨#[]⟩ : ByteArray), .int .i64 0, .int .i64 0, .slice none 0 0] 139 (0, 0)) (by (with_reducible repeat (first | refine blk_drewN ?_ _ | refine blk_drew ?_ | refine blk_alloc ?_ _)); exact BK582.out) hb)
            have n2_ := Aside0.mk (below_step (by repeat (first | (with_reducible first | exact HB.out | apply below_alloc | apply pw_below_drewN | apply below_drew1 | refine below_set ?_ GE577.out | refine below_set ?_ GE582.out) | exact HB.out)) hb)
            have n3_ := Aside0.mk (hbox)
            have n4_ := Aside0.mk ((by rw [hg]; exact (below_size (by repeat (first | (with_reducible first | exact HB.out | apply below_alloc | apply pw_below_drewN | apply below_drew1 | refine below_set ?_ GE577.out | refine below_set ?_ GE582.out) | exact HB.out))) : w.heap.size ≤ gb581))
            have n5_ := Aside0.mk ((by rw [hg]; exact (below_size (by repeat (first | (with_reducible first | exact HB.out | apply below_alloc | apply pw_below_drewN | apply below_drew1 | refine below_set ?_ GE577.out | refine below_set ?_ GE582.out) | exact HB.out))) : w.heap.size ≤ gb581))
            have n6_ := Aside0.mk ((by rw [hg]; exact Nat.ne_of_lt (blk_lt (g := gb577) (o := .cells #[.int .i64 a0_0, .int .i64 a0_1, .int .i64 a0_2, .int .i64 a0_3, .slice A0_4 l0_4.length c0_4, .bool a0_5, .int .i64 a0_6, .int .i64 a0_7, .int .i64 a0_8, .int .i64 a0_9, .string a0_10, .int .i64 a0_11, .int .i64 a0_12, .slice A0_13 l0_13.length c0_13] 141 (0, 0)) (by (with_reducible repeat (first | refine blk_drewN ?_ _ | refine blk_drew ?_ | refine blk_alloc ?_ _)); exact BK577.out)) : gb577 ≠ gb581))
            have n7_ := Aside0.mk ((by rw [hg]; exact Nat.ne_of_gt (blk_lt (g := gb577) (o := .cells #[.int .i64 a0_0, .int .i64 a0_1, .int .i64 a0_2, .int .i64 a0_3, .slice A0_4 l0_4.length c0_4, .bool a0_5, .int .i64 a0_6, .int .i64 a0_7, .int .i64 a0_8, .int .i64 a0_9, .string a0_10, .int .i64 a0_11, .int .i64 a0_12, .slice A0_13 l0_13.length c0_13] 141 (0, 0)) (by (with_reducible repeat (first | refine blk_drewN ?_ _ | refine blk_drew ?_ | refine blk_alloc ?_ _)); exact BK577.out)) : gb581 ≠ gb577))
            have n8_ := Aside0.mk ((by rw [hg]; exact Nat.ne_of_lt (blk_lt (g := gb582) (o := .cells #[.string (⟨#[]⟩ : ByteArray), .int .i64 0, .int .i64 0, .slice none 0 0] 139 (0, 0)) (by (with_reducible repeat (first | refine blk_drewN ?_ _ | refine blk_drew ?_ | refine blk_alloc ?_ _)); exact BK582.out)) : gb582 ≠ gb581))
            have n9_ := Aside0.mk ((by rw [hg]; exact Nat.ne_of_gt (blk_lt (g := gb582) (o := .cells #[.string (⟨#[]⟩ : ByteArray), .int .i64 0, .int .i64 0, .slice none 0 0] 139 (0, 0)) (by (with_reducible repeat (first | refine blk_drewN ?_ _ | refine blk_drew ?_ | refine blk_alloc ?_ _)); exact BK582.out)) : gb581 ≠ gb582))
            clear BK577
            clear BK582
            clear HB
            have BK577 := n0_
            have BK582 := n1_
            have HB := n2_
            have BK581 := n3_
            have GW581 := n4_
            have GE581 := n5_
            have NB577_581 := n6_
            have NB581_577 := n7_
            have NB582_581 := n8_
            have NB581_582 := n9_
            clear n0_ n1_ n2_ n3_ n4_ n5_ n6_ n7_ n8_ n9_
            clear hb hbox hg
            refine hK.out _ _ ⟨(blk_cell BK577.out 0).trans rfl, (blk_cell BK577.out 1).trans rfl, (blk_cell BK577.out 2).trans rfl, (blk_cell BK577.out 3).trans rfl, (blk_cell BK577.out 4).trans rfl, (blk_cell BK577.out 5).trans rfl, (blk_cell BK577.out 6).trans rfl, (blk_cell BK577.out 7).trans rfl, (blk_cell BK577.out 8).trans rfl, (blk_cell BK577.out 9).trans rfl, (blk_cell BK577.out 10).trans rfl, (blk_cell BK577.out 11).trans rfl, (blk_cell BK577.out 12).trans rfl, (blk_cell BK577.out 13).trans rfl⟩ (fun hHeld => ?_)
            clear hK K
            refine norm_ (a' := ?_) ?_ ?_
            rotate_left
            · show Act.put _ (some 4) _ = _
              simp only [Act.put, List.setIfInBounds_toArray, List.set_cons_zero, List.set_cons_succ, i64_w, i32_w]
              rfl
            exact norm_ (by simp only [putAll, Act.put, List.setIfInBounds_toArray, List.set_cons_zero, List.set_cons_succ]) (hCont (gb581, gb582) _ ⟨hHeld, (by (with_reducible repeat (first | refine blk_drewN ?_ _ | refine blk_drew ?_ | refine blk_alloc ?_ _)); exact BK577.out), (by (with_reducible repeat (first | refine blk_drewN ?_ _ | refine blk_drew ?_ | refine blk_alloc ?_ _)); exact BK581.out), (by (with_reducible repeat (first | refine blk_drewN ?_ _ | refine blk_drew ?_ | refine blk_alloc ?_ _)); exact BK582.out), GW581.out, GE581.out, NB577_581.out, NB581_577.out, NB582_581.out, NB581_582.out, GW582.out, GE582.out, NB577_582.out, NB582_577.out, (by repeat (first | (with_reducible first | exact HB.out | apply below_alloc | apply pw_below_drewN | apply below_drew1 | refine below_set ?_ GE577.out | refine below_set ?_ GE582.out | refine below_set ?_ GE581.out) | exact HB.out))⟩)
        rintro ⟨gb581, gb582⟩ w22 ⟨hS_, h0_, h1_, h2_, h3_, h4_, h5_, h6_, h7_, h8_, h9_, h10_, h11_, h12_, h13_⟩
        have n0_ : Aside0 (w22.heap[gb577]? = some (.cells #[.int .i64 a0_0, .int .i64 a0_1, .int .i64 a0_2, .int .i64 a0_3, .slice A0_4 l0_4.length c0_4, .bool a0_5, .int .i64 a0_6, .int .i64 a0_7, .int .i64 a0_8, .int .i64 a0_9, .string a0_10, .int .i64 a0_11, .int .i64 a0_12, .slice A0_13 l0_13.length c0_13] 141 (0, 0))) := ⟨h0_⟩
        have n1_ : Aside0 (w22.heap[gb581]? = some (.cells #[.int .i64 0, .int .i64 0, .int .i64 0, .slice none 0 0, .bool false] 86 (0, 0))) := ⟨h1_⟩
        have n2_ : Aside0 (w22.heap[gb582]? = some (.cells #[.string (⟨#[]⟩ : ByteArray), .int .i64 0, .int .i64 0, .slice none 0 0] 139 (0, 0))) := ⟨h2_⟩
        have n3_ : Aside0 (w.heap.size ≤ gb581) := ⟨h3_⟩
        have n4_ : Aside0 (w.heap.size ≤ gb581) := ⟨h4_⟩
        have n5_ : Aside0 (gb577 ≠ gb581) := ⟨h5_⟩
        have n6_ : Aside0 (gb581 ≠ gb577) := ⟨h6_⟩
        have n7_ : Aside0 (gb582 ≠ gb581) := ⟨h7_⟩
        have n8_ : Aside0 (gb581 ≠ gb582) := ⟨h8_⟩
        have n9_ : Aside0 (w.heap.size ≤ gb582) := ⟨h9_⟩
        have n10_ : Aside0 (w.heap.size ≤ gb582) := ⟨h10_⟩
        have n11_ : Aside0 (gb577 ≠ gb582) := ⟨h11_⟩
        have n12_ : Aside0 (gb582 ≠ gb577) := ⟨h12_⟩
        have n13_ : Aside0 (Below w.heap.size w w22) := ⟨h13_⟩
        clear BK577
        clear HB
        clear h0_ h1_ h2_ h3_ h4_ h5_ h6_ h7_ h8_ h9_ h10_ h11_ h12_ h13_
        have BK577 := n0_
        have BK581 := n1_
        have BK582 := n2_
        have GW581 := n3_
        have GE581 := n4_
        have NB577_581 := n5_
        have NB581_577 := n6_
        have NB582_581 := n7_
        have NB581_582 := n8_
        have GW582 := n9_
        have GE582 := n10_
        have NB577_582 := n11_
        have NB582_577 := n12_
        have HB := n13_
        clear n0_ n1_ n2_ n3_ n4_ n5_ n6_ n7_ n8_ n9_ n10_ n11_ n12_ n13_
        have hHeld : w22.cell? ⟨gb577, 0, none⟩ = some (.int .i64 a0_0) ∧ w22.cell? ⟨gb577, 1, none⟩ = some (.int .i64 a0_1) ∧ w22.cell? ⟨gb577, 2, none⟩ = some (.int .i64 a0_2) ∧ w22.cell? ⟨gb577, 3, none⟩ = some (.int .i64 a0_3) ∧ w22.cell? ⟨gb577, 4, none⟩ = some (.slice A0_4 l0_4.length c0_4) ∧ w22.cell? ⟨gb577, 5, none⟩ = some (.bool a0_5) ∧ w22.cell? ⟨gb577, 6, none⟩ = some (.int .i64 a0_6) ∧ w22.cell? ⟨gb577, 7, none⟩ = some (.int .i64 a0_7) ∧ w22.cell? ⟨gb577, 8, none⟩ = some (.int .i64 a0_8) ∧ w22.cell? ⟨gb577, 9, none⟩ = some (.int .i64 a0_9) ∧ w22.cell? ⟨gb577, 10, none⟩ = some (.string a0_10) ∧ w22.cell? ⟨gb577, 11, none⟩ = some (.int .i64 a0_11) ∧ w22.cell? ⟨gb577, 12, none⟩ = some (.int .i64 a0_12) ∧ w22.cell? ⟨gb577, 13, none⟩ = some (.slice A0_13 l0_13.length c0_13) := hS_
        refine norm_ (a' := ?_) ?_ ?_
        rotate_left
        · simp only [putAll, Act.put, List.setIfInBounds_toArray, List.set_cons_zero, List.set_cons_succ]
          rfl
        refine one_ (i := 6) (N := none) #[true, true, true, true, true, true, true, false] rfl rfl (one_of HT_.out (by kernel_rfl)) (by decide) (fun K hK => ?_)
        have hs23 : w22.cell? ⟨gb581, 0, none⟩ = some (.int .i64 0) := (blk_cell BK581.out 0).trans rfl
        have hfs23 := blk_frozen BK581.out 0
        have hns23_0 := NB577_581.out
        have hns23_2 := NB582_581.out
        have hms23_0 := NB581_577.out
        have hms23_2 := NB581_582.out
        have hs24 : w22.cell? ⟨gb581, 1, none⟩ = some (.int .i64 0) := (blk_cell BK581.out 1).trans rfl
        have hfs24 := blk_frozen BK581.out 1
        have hns24_0 := NB577_581.out
        have hns24_2 := NB582_581.out
        have hms24_0 := NB581_577.out
        have hms24_2 := NB581_582.out
        have hs25 : w22.cell? ⟨gb581, 2, none⟩ = some (.int .i64 0) := (blk_cell BK581.out 2).trans rfl
        have hfs25 := blk_frozen BK581.out 2
        have hns25_0 := NB577_581.out
        have hns25_2 := NB582_581.out
        have hms25_0 := NB581_577.out
        have hms25_2 := NB581_582.out
        have hs26 : w22.cell? ⟨gb581, 3, none⟩ = some (.slice none 0 0) := (blk_cell BK581.out 3).trans rfl
        have hfs26 := blk_frozen BK581.out 3
        have hns26_0 := NB577_581.out
        have hns26_2 := NB582_581.out
        have hms26_0 := NB581_577.out
        have hms26_2 := NB581_582.out
        have hs27 : w22.cell? ⟨gb581, 4, none⟩ = some (.bool false) := (blk_cell BK581.out 4).trans rfl
        have hfs27 := blk_frozen BK581.out 4
        have hns27_0 := NB577_581.out
        have hns27_2 := NB582_581.out
        have hms27_0 := NB581_577.out
        have hms27_2 := NB581_582.out
        refine skip_ (w1 := ?_) (by rfl) rfl ?_ ?_
        rotate_left
        · go_simp
          rfl
        refine hK.out _ _ ⟨((cell_far (p := ⟨gb581, _, none⟩) NB577_581.out _).trans (((cell_far (p := ⟨gb581, _, none⟩) NB577_581.out _).trans (((cell_far (p := ⟨gb581, _, none⟩) NB577_581.out _).trans (((cell_far (p := ⟨gb581, _, none⟩) NB577_581.out _).trans (((cell_far (p := ⟨gb581, _, none⟩) NB577_581.out _).trans (hHeld.1)))))))))), ((cell_far (p := ⟨gb581, _, none⟩) NB577_581.out _).trans (((cell_far (p := ⟨gb581, _, none⟩) NB577_581.out _).trans (((cell_far (p := ⟨gb581, _, none⟩) NB577_581.out _).trans (((cell_far (p := ⟨gb581, _, none⟩) NB577_581.out _).trans (((cell_far (p := ⟨gb581, _, none⟩) NB577_581.out _).trans (hHeld.2.1)))))))))), ((cell_far (p := ⟨gb581, _, none⟩) NB577_581.out _).trans (((cell_far (p := ⟨gb581, _, none⟩) NB577_581.out _).trans (((cell_far (p := ⟨gb581, _, none⟩) NB577_581.out _).trans (((cell_far (p := ⟨gb581, _, none⟩) NB577_581.out _).trans (((cell_far (p := ⟨gb581, _, none⟩) NB577_581.out _).trans (hHeld.2.2.1)))))))))), ((cell_far (p := ⟨gb581, _, none⟩) NB577_581.out _).trans (((cell_far (p := ⟨gb581, _, none⟩) NB577_581.out _).trans (((cell_far (p := ⟨gb581, _, none⟩) NB577_581.out _).trans (((cell_far (p := ⟨gb581, _, none⟩) NB577_581.out _).trans (((cell_far (p := ⟨gb581, _, none⟩) NB577_581.out _).trans (hHeld.2.2.2.1)))))))))), ((cell_far (p := ⟨gb581, _, none⟩) NB577_581.out _).trans (((cell_far (p := ⟨gb581, _, none⟩) NB577_581.out _).trans (((cell_far (p := ⟨gb581, _, none⟩) NB577_581.out _).trans (((cell_far (p := ⟨gb581, _, none⟩) NB577_581.out _).trans (((cell_far (p := ⟨gb581, _, none⟩) NB577_581.out _).trans (hHeld.2.2.2.2.1)))))))))), ((cell_far (p := ⟨gb581, _, none⟩) NB577_581.out _).trans (((cell_far (p := ⟨gb581, _, none⟩) NB577_581.out _).trans (((cell_far (p := ⟨gb581, _, none⟩) NB577_581.out _).trans (((cell_far (p := ⟨gb581, _, none⟩) NB577_581.out _).trans (((cell_far (p := ⟨gb581, _, none⟩) NB577_581.out _).trans (hHeld.2.2.2.2.2.1)))))))))), ((cell_far (p := ⟨gb581, _, none⟩) NB577_581.out _).trans (((cell_far (p := ⟨gb581, _, none⟩) NB577_581.out _).trans (((cell_far (p := ⟨gb581, _, none⟩) NB577_581.out _).trans (((cell_far (p := ⟨gb581, _, none⟩) NB577_581.out _).trans (((cell_far (p := ⟨gb581, _, none⟩) NB577_581.out _).trans (hHeld.2.2.2.2.2.2.1)))))))))), ((cell_far (p := ⟨gb581, _, none⟩) NB577_581.out _).trans (((cell_far (p := ⟨gb581, _, none⟩) NB577_581.out _).trans (((cell_far (p := ⟨gb581, _, none⟩) NB577_581.out _).trans (((cell_far (p := ⟨gb581, _, none⟩) NB577_581.out _).trans (((cell_far (p := ⟨gb581, _, none⟩) NB577_581.out _).trans (hHeld.2.2.2.2.2.2.2.1)))))))))), ((cell_far (p := ⟨gb581, _, none⟩) NB577_581.out _).trans (((cell_far (p := ⟨gb581, _, none⟩) NB577_581.out _).trans (((cell_far (p := ⟨gb581, _, none⟩) NB577_581.out _).trans (((cell_far (p := ⟨gb581, _, none⟩) NB577_581.out _).trans (((cell_far (p := ⟨gb581, _, none⟩) NB577_581.out _).trans (hHeld.2.2.2.2.2.2.2.2.1)))))))))), ((cell_far (p := ⟨gb581, _, none⟩) NB577_581.out _).trans (((cell_far (p := ⟨gb581, _, none⟩) NB577_581.out _).trans (((cell_far (p := ⟨gb581, _, none⟩) NB577_581.out _).trans (((cell_far (p := ⟨gb581, _, none⟩) NB577_581.out _).trans (((cell_far (p := ⟨gb581, _, none⟩) NB577_581.out _).trans (hHeld.2.2.2.2.2.2.2.2.2.1)))))))))), ((cell_far (p := ⟨gb581, _, none⟩) NB577_581.out _).trans (((cell_far (p := ⟨gb581, _, none⟩) NB577_581.out _).trans (((cell_far (p := ⟨gb581, _, none⟩) NB577_581.out _).trans (((cell_far (p := ⟨gb581, _, none⟩) NB577_581.out _).trans (((cell_far (p := ⟨gb581, _, none⟩) NB577_581.out _).trans (hHeld.2.2.2.2.2.2.2.2.2.2.1)))))))))), ((cell_far (p := ⟨gb581, _, none⟩) NB577_581.out _).trans (((cell_far (p := ⟨gb581, _, none⟩) NB577_581.out _).trans (((cell_far (p := ⟨gb581, _, none⟩) NB577_581.out _).trans (((cell_far (p := ⟨gb581, _, none⟩) NB577_581.out _).trans (((cell_far (p := ⟨gb581, _, none⟩) NB577_581.out _).trans (hHeld.2.2.2.2.2.2.2.2.2.2.2.1)))))))))), ((cell_far (p := ⟨gb581, _, none⟩) NB577_581.out _).trans (((cell_far (p := ⟨gb581, _, none⟩) NB577_581.out _).trans (((cell_far (p := ⟨gb581, _, none⟩) NB577_581.out _).trans (((cell_far (p := ⟨gb581, _, none⟩) NB577_581.out _).trans (((cell_far (p := ⟨gb581, _, none⟩) NB577_581.out _).trans (hHeld.2.2.2.2.2.2.2.2.2.2.2.2.1)))))))))), ((cell_far (p := ⟨gb581, _, none⟩) NB577_581.out _).trans (((cell_far (p := ⟨gb581, _, none⟩) NB577_581.out _).trans (((cell_far (p := ⟨gb581, _, none⟩) NB577_581.out _).trans (((cell_far (p := ⟨gb581, _, none⟩) NB577_581.out _).trans (((cell_far (p := ⟨gb581, _, none⟩) NB577_581.out _).trans (hHeld.2.2.2.2.2.2.2.2.2.2.2.2.2))))))))))⟩ (fun hHeld => ?_)
        clear hK K
        refine one_ (i := 7) (N := none) #[true, true, true, true, true, true, true, true] rfl rfl (one_of HT_.out (by kernel_rfl)) (by decide) (fun K hK => ?_)
        have hs28 : w22.cell? ⟨gb582, 0, none⟩ = some (.string (⟨#[]⟩ : ByteArray)) := (blk_cell BK582.out 0).trans rfl
        have hfs28 := blk_frozen BK582.out 0
        have hns28_0 := NB577_582.out
        have hns28_1 := NB581_582.out
        have hms28_0 := NB582_577.out
        have hms28_1 := NB582_581.out
        have hs29 : w22.cell? ⟨gb582, 1, none⟩ = some (.int .i64 0) := (blk_cell BK582.out 1).trans rfl
        have hfs29 := blk_frozen BK582.out 1
        have hns29_0 := NB577_582.out
        have hns29_1 := NB581_582.out
        have hms29_0 := NB582_577.out
        have hms29_1 := NB582_581.out
        have hs30 : w22.cell? ⟨gb582, 2, none⟩ = some (.int .i64 0) := (blk_cell BK582.out 2).trans rfl
        have hfs30 := blk_frozen BK582.out 2
        have hns30_0 := NB577_582.out
        have hns30_1 := NB581_582.out
        have hms30_0 := NB582_577.out
        have hms30_1 := NB582_581.out
        have hs31 : w22.cell? ⟨gb582, 3, none⟩ = some (.slice none 0 0) := (blk_cell BK582.out 3).trans rfl
        have hfs31 := blk_frozen BK582.out 3
        have hns31_0 := NB577_582.out
        have hns31_1 := NB581_582.out
        have hms31_0 := NB582_577.out
        have hms31_1 := NB582_581.out
        refine skip_ (w1 := ?_) (by rfl) rfl ?_ ?_
        rotate_left
        · go_simp
          rfl
        refine hK.out _ _ ⟨((cell_far (p := ⟨gb582, _, none⟩) NB577_582.out _).trans (((cell_far (p := ⟨gb582, _, none⟩) NB577_582.out _).trans (((cell_far (p := ⟨gb582, _, none⟩) NB577_582.out _).trans (((cell_far (p := ⟨gb582, _, none⟩) NB577_582.out _).trans (hHeld.1)))))))), ((cell_far (p := ⟨gb582, _, none⟩) NB577_582.out _).trans (((cell_far (p := ⟨gb582, _, none⟩) NB577_582.out _).trans (((cell_far (p := ⟨gb582, _, none⟩) NB577_582.out _).trans (((cell_far (p := ⟨gb582, _, none⟩) NB577_582.out _).trans (hHeld.2.1)))))))), ((cell_far (p := ⟨gb582, _, none⟩) NB577_582.out _).trans (((cell_far (p := ⟨gb582, _, none⟩) NB577_582.out _).trans (((cell_far (p := ⟨gb582, _, none⟩) NB577_582.out _).trans (((cell_far (p := ⟨gb582, _, none⟩) NB577_582.out _).trans (hHeld.2.2.1)))))))), ((cell_far (p := ⟨gb582, _, none⟩) NB577_582.out _).trans (((cell_far (p := ⟨gb582, _, none⟩) NB577_582.out _).trans (((cell_far (p := ⟨gb582, _, none⟩) NB577_582.out _).trans (((cell_far (p := ⟨gb582, _, none⟩) NB577_582.out _).trans (hHeld.2.2.2.1)))))))), ((cell_far (p := ⟨gb582, _, none⟩) NB577_582.out _).trans (((cell_far (p := ⟨gb582, _, none⟩) NB577_582.out _).trans (((cell_far (p := ⟨gb582, _, none⟩) NB577_582.out _).trans (((cell_far (p := ⟨gb582, _, none⟩) NB577_582.out _).trans (hHeld.2.2.2.2.1)))))))), ((cell_far (p := ⟨gb582, _, none⟩) NB577_582.out _).trans (((cell_far (p := ⟨gb582, _, none⟩) NB577_582.out _).trans (((cell_far (p := ⟨gb582, _, none⟩) NB577_582.out _).trans (((cell_far (p := ⟨gb582, _, none⟩) NB577_582.out _).trans (hHeld.2.2.2.2.2.1)))))))), ((cell_far (p := ⟨gb582, _, none⟩) NB577_582.out _).trans (((cell_far (p := ⟨gb582, _, none⟩) NB577_582.out _).trans (((cell_far (p := ⟨gb582, _, none⟩) NB577_582.out _).trans (((cell_far (p := ⟨gb582, _, none⟩) NB577_582.out _).trans (hHeld.2.2.2.2.2.2.1)))))))), ((cell_far (p := ⟨gb582, _, none⟩) NB577_582.out _).trans (((cell_far (p := ⟨gb582, _, none⟩) NB577_582.out _).trans (((cell_far (p := ⟨gb582, _, none⟩) NB577_582.out _).trans (((cell_far (p := ⟨gb582, _, none⟩) NB577_582.out _).trans (hHeld.2.2.2.2.2.2.2.1)))))))), ((cell_far (p := ⟨gb582, _, none⟩) NB577_582.out _).trans (((cell_far (p := ⟨gb582, _, none⟩) NB577_582.out _).trans (((cell_far (p := ⟨gb582, _, none⟩) NB577_582.out _).trans (((cell_far (p := ⟨gb582, _, none⟩) NB577_582.out _).trans (hHeld.2.2.2.2.2.2.2.2.1)))))))), ((cell_far (p := ⟨gb582, _, none⟩) NB577_582.out _).trans (((cell_far (p := ⟨gb582, _, none⟩) NB577_582.out _).trans (((cell_far (p := ⟨gb582, _, none⟩) NB577_582.out _).trans (((cell_far (p := ⟨gb582, _, none⟩) NB577_582.out _).trans (hHeld.2.2.2.2.2.2.2.2.2.1)))))))), ((cell_far (p := ⟨gb582, _, none⟩) NB577_582.out _).trans (((cell_far (p := ⟨gb582, _, none⟩) NB577_582.out _).trans (((cell_far (p := ⟨gb582, _, none⟩) NB577_582.out _).trans (((cell_far (p := ⟨gb582, _, none⟩) NB577_582.out _).trans (hHeld.2.2.2.2.2.2.2.2.2.2.1)))))))), ((cell_far (p := ⟨gb582, _, none⟩) NB577_582.out _).trans (((cell_far (p := ⟨gb582, _, none⟩) NB577_582.out _).trans (((cell_far (p := ⟨gb582, _, none⟩) NB577_582.out _).trans (((cell_far (p := ⟨gb582, _, none⟩) NB577_582.out _).trans (hHeld.2.2.2.2.2.2.2.2.2.2.2.1)))))))), ((cell_far (p := ⟨gb582, _, none⟩) NB577_582.out _).trans (((cell_far (p := ⟨gb582, _, none⟩) NB577_582.out _).trans (((cell_far (p := ⟨gb582, _, none⟩) NB577_582.out _).trans (((cell_far (p := ⟨gb582, _, none⟩) NB577_582.out _).trans (hHeld.2.2.2.2.2.2.2.2.2.2.2.2.1)))))))), ((cell_far (p := ⟨gb582, _, none⟩) NB577_582.out _).trans (((cell_far (p := ⟨gb582, _, none⟩) NB577_582.out _).trans (((cell_far (p := ⟨gb582, _, none⟩) NB577_582.out _).trans (((cell_far (p := ⟨gb582, _, none⟩) NB577_582.out _).trans (hHeld.2.2.2.2.2.2.2.2.2.2.2.2.2))))))))⟩ (fun hHeld => ?_)
        clear hK K
        refine done_ (done_of HT_.out (by kernel_rfl)) ?_
        go_upto_region 13 with (fail)
        go_cut [6] (fun v6 wc => ∃ (kq : Nat) (x6_17 : Bool), v6 = .bool x6_17 ∧ Aside0 (logfile_Check.j1 kq x6_17 a0_0 a0_1 a0_2 a0_3 l0_4 a0_5 a0_6 a0_7 a0_8 a0_9 a0_10 a0_11 a0_12 l0_13 a0_10 a0_11 a0_12 l0_13 = some r) ∧ Aside0 (kq ≤ kj1) ∧ Aside0 (wc.heap[gb577]? = some (.cells #[.int .i64 a0_0, .int .i64 a0_1, .int .i64 a0_2, .int .i64 a0_3, (.slice A0_4 l0_4.length c0_4), .bool a0_5, .int .i64 a0_6, .int .i64 a0_7, .int .i64 a0_8, .int .i64 a0_9, .string a0_10, .int .i64 a0_11, .int .i64 a0_12, (.slice A0_13 l0_13.length c0_13)] 141 (0, 0))) ∧ Aside0 (wc.heap[gb581]? = some (.cells #[.int .i64 a0_1, .int .i64 a0_2, .int .i64 a0_3, (.slice A0_4 l0_4.length c0_4), .bool a0_5] 86 (0, 0))) ∧ Aside0 (wc.heap[gb582]? = some (.cells #[.string a0_10, .int .i64 a0_11, .int .i64 a0_12, (.slice A0_13 l0_13.length c0_13)] 139 (0, 0))) ∧ Aside0 (Below w.heap.size w wc))
        case first =>
          have H := HC18.out
          clear HC18
          by_cases c32 : a0_1 = 0
          · rw [if_pos c32] at H
            have c32b0 : (a0_1 == 0) = true := beq_iff_eq.mpr c32
            have c32b1 : (a0_1 != 0) = false := bne_eq_false_iff_eq.mpr c32
            clear c32
            (first | rw [c32b0] | (simp only [i64_w, i32_w]; rw [c32b0]) | skip)
            by_cases c33 : a0_2 = 0
            · rw [if_pos c33] at H
              have c33b0 : (a0_2 == 0) = true := beq_iff_eq.mpr c33
              have c33b1 : (a0_2 != 0) = false := bne_eq_false_iff_eq.mpr c33
              clear c33
              by_cases c34 : a0_3 = 0
              · rw [if_pos c34] at H
                have c34b0 : (a0_3 == 0) = true := beq_iff_eq.mpr c34
                have c34b1 : (a0_3 != 0) = false := bne_eq_false_iff_eq.mpr c34
                clear c34
                by_cases c35 : a0_5 = true
                · exact absurd c35 (by rw [HK4.out]; decide)
                · replace c35 := Bool.eq_false_iff.mpr c35
                  subst c35
                  have H1 : (logfile_Check.j1 kj1 ((l0_4.length : Int) == 0) a0_0 a0_1 a0_2 a0_3 l0_4 false a0_6 a0_7 a0_8 a0_9 a0_10 a0_11 a0_12 l0_13 a0_10 a0_11 a0_12 l0_13) = some r := by rw [if_neg (show ¬ (false = true) by decide)] at H; exact H
                  clear H
                  have H := H1
                  clear H1
                  have H' := Aside0.mk H
                  clear H
                  have hnb39 := NB581_577.out
                  have hnc39 := NB577_581.out
                  have hnb40 := NB581_582.out
                  have hnc40 := NB582_581.out
                  have hcz41_0 : w22.cell? ⟨gb581, 0, none⟩ = some (.int .i64 0) := (blk_cell BK581.out 0).trans rfl
                  have hcz41_1 : w22.cell? ⟨gb581, 1, none⟩ = some (.int .i64 0) := (blk_cell BK581.out 1).trans rfl
                  have hcz41_2 : w22.cell? ⟨gb581, 2, none⟩ = some (.int .i64 0) := (blk_cell BK581.out 2).trans rfl
                  have hcz41_3 : w22.cell? ⟨gb581, 3, none⟩ = some (.slice none 0 0) := (blk_cell BK581.out 3).trans rfl
                  have hcz41_4 : w22.cell? ⟨gb581, 4, none⟩ = some (.bool false) := (blk_cell BK581.out 4).trans rfl
                  have hfz41_0 := blk_frozen BK581.out 0
                  have hfz41_1 := blk_frozen BK581.out 1
                  have hfz41_2 := blk_frozen BK581.out 2
                  have hfz41_3 := blk_frozen BK581.out 3
                  have hfz41_4 := blk_frozen BK581.out 4
                  go_wp2
                  go_meet
                  case rel => exact ⟨_, (((l0_4.length : Int) == 0)), (by first | rfl | (simp; done) | (simp [*]; done) | (simp only [isEmpty_ne_]; done)), H', ⟨by have := HJ1.out; first | omega | exact Nat.le_refl _⟩, ⟨by (with_reducible repeat (first | refine blk_drewN ?_ _ | refine blk_drew ?_ | refine blk_alloc ?_ _)); refine blk_far ?_ NB577_582.out _; (with_reducible repeat (first | refine blk_drewN ?_ _ | refine blk_drew ?_ | refine blk_alloc ?_ _)); refine blk_far ?_ NB577_582.out _; (with_reducible repeat (first | refine blk_drewN ?_ _ | refine blk_drew ?_ | refine blk_alloc ?_ _)); refine blk_far ?_ NB577_582.out _; (with_reducible repeat (first | refine blk_drewN ?_ _ | refine blk_drew ?_ | refine blk_alloc ?_ _)); refine blk_far ?_ NB577_582.out _; (with_reducible repeat (first | refine blk_drewN ?_ _ | refine blk_drew ?_ | refine blk_alloc ?_ _)); refine blk_far ?_ NB577_581.out _; (with_reducible repeat (first | refine blk_drewN ?_ _ | refine blk_drew ?_ | refine blk_alloc ?_ _)); refine blk_far ?_ NB577_581.out _; (with_reducible repeat (first | refine blk_drewN ?_ _ | refine blk_drew ?_ | refine blk_alloc ?_ _)); refine blk_far ?_ NB577_581.out _; (with_reducible repeat (first | refine blk_drewN ?_ _ | refine blk_drew ?_ | refine blk_alloc ?_ _)); refine blk_far ?_ NB577_581.out _; (with_reducible repeat (first | refine blk_drewN ?_ _ | refine blk_drew ?_ | refine blk_alloc ?_ _)); refine blk_far ?_ NB577_581.out _; (with_reducible repeat (first | refine blk_drewN ?_ _ | refine blk_drew ?_ | refine blk_alloc ?_ _)); exact BK577.out⟩, ⟨by (with_reducible repeat (first | refine blk_drewN ?_ _ | refine blk_drew ?_ | refine blk_alloc ?_ _)); refine blk_far ?_ NB581_582.out _; (with_reducible repeat (first | refine blk_drewN ?_ _ | refine blk_drew ?_ | refine blk_alloc ?_ _)); refine blk_far ?_ NB581_582.out _; (with_reducible repeat (first | refine blk_drewN ?_ _ | refine blk_drew ?_ | refine blk_alloc ?_ _)); refine blk_far ?_ NB581_582.out _; (with_reducible repeat (first | refine blk_drewN ?_ _ | refine blk_drew ?_ | refine blk_alloc ?_ _)); refine blk_far ?_ NB581_582.out _; (with_reducible repeat (first | refine blk_drewN ?_ _ | refine blk_drew ?_ | refine blk_alloc ?_ _)); refine blk_put (cs := #[.int .i64 a0_1, .int .i64 a0_2, .int .i64 a0_3, .slice A0_4 l0_4.length c0_4, .bool false]) ?_ 4 _ rfl; (with_reducible repeat (first | refine blk_drewN ?_ _ | refine blk_drew ?_ | refine blk_alloc ?_ _)); refine blk_put (cs := #[.int .i64 a0_1, .int .i64 a0_2, .int .i64 a0_3, .slice none 0 0, .bool false]) ?_ 3 _ rfl; (with_reducible repeat (first | refine blk_drewN ?_ _ | refine blk_drew ?_ | refine blk_alloc ?_ _)); refine blk_put (cs := #[.int .i64 a0_1, .int .i64 a0_2, .int .i64 0, .slice none 0 0, .bool false]) ?_ 2 _ rfl; (with_reducible repeat (first | refine blk_drewN ?_ _ | refine blk_drew ?_ | refine blk_alloc ?_ _)); refine blk_put (cs := #[.int .i64 a0_1, .int .i64 0, .int .i64 0, .slice none 0 0, .bool false]) ?_ 1 _ rfl; (with_reducible repeat (first | refine blk_drewN ?_ _ | refine blk_drew ?_ | refine blk_alloc ?_ _)); refine blk_put (cs := #[.int .i64 0, .int .i64 0, .int .i64 0, .slice none 0 0, .bool false]) ?_ 0 _ rfl; (with_reducible repeat (first | refine blk_drewN ?_ _ | refine blk_drew ?_ | refine blk_alloc ?_ _)); exact BK581.out⟩, ⟨by (with_reducible repeat (first | refine blk_drewN ?_ _ | refine blk_drew ?_ | refine blk_alloc ?_ _)); refine blk_put (cs := #[.string a0_10, .int .i64 a0_11, .int .i64 a0_12, .slice none 0 0]) ?_ 3 _ rfl; (with_reducible repeat (first | refine blk_drewN ?_ _ | refine blk_drew ?_ | refine blk_alloc ?_ _)); refine blk_put (cs := #[.string a0_10, .int .i64 a0_11, .int .i64 0, .slice none 0 0]) ?_ 2 _ rfl; (with_reducible repeat (first | refine blk_drewN ?_ _ | refine blk_drew ?_ | refine blk_alloc ?_ _)); refine blk_put (cs := #[.string a0_10, .int .i64 0, .int .i64 0, .slice none 0 0]) ?_ 1 _ rfl; (with_reducible repeat (first | refine blk_drewN ?_ _ | refine blk_drew ?_ | refine blk_alloc ?_ _)); refine blk_put (cs := #[.string (⟨#[]⟩ : ByteArray), .int .i64 0, .int .i64 0, .slice none 0 0]) ?_ 0 _ rfl; (with_reducible repeat (first | refine blk_drewN ?_ _ | refine blk_drew ?_ | refine blk_alloc ?_ _)); refine blk_far ?_ NB582_581.out _; (with_reducible repeat (first | refine blk_drewN ?_ _ | refine blk_drew ?_ | refine blk_alloc ?_ _)); refine blk_far ?_ NB582_581.out _; (with_reducible repeat (first | refine blk_drewN ?_ _ | refine blk_drew ?_ | refine blk_alloc ?_ _)); refine blk_far ?_ NB582_581.out _; (with_reducible repeat (first | refine blk_drewN ?_ _ | refine blk_drew ?_ | refine blk_alloc ?_ _)); refine blk_far ?_ NB582_581.out _; (with_reducible repeat (first | refine blk_drewN ?_ _ | refine blk_drew ?_ | refine blk_alloc ?_ _)); refine blk_far ?_ NB582_581.out _; (with_reducible repeat (first | refine blk_drewN ?_ _ | refine blk_drew ?_ | refine blk_alloc ?_ _)); exact BK582.out⟩, ⟨by repeat (first | (with_reducible first | exact HB.out | apply below_alloc | apply pw_below_drewN | apply below_drew1 | refine below_set ?_ GE577.out | refine below_set ?_ GE581.out | refine below_set ?_ GE582.out) | exact HB.out)⟩⟩
              · exact absurd HK3.out c34
            · exact absurd HK2.out c33
          · exact absurd HK1.out c32
        case rest =>
          clear HC18
          try clear c1
          try clear p2
          try clear c3
          try clear c4
          try clear c5
          try clear c5b0
          try clear c5b1
          try clear c9
          try clear c9b0
          try clear c9b1
          try clear c12
          try clear c13
          try clear c13b0
          try clear c13b1
          try clear c15
          try clear c17
          try clear c17b0
          try clear c17b1
          try clear c32
          try clear c32b0
          try clear c32b1
          try clear c33
          try clear c33b0
          try clear c33b1
          try clear c34
          try clear c34b0
          try clear c34b1
          try clear c35
          try clear c36
          try clear c37
          try clear c39
          try clear c40
          try clear c42
          try clear c43
          try clear c45
          try clear c46
          try clear c48
          try clear c49
          try clear hcz11_0
          try clear hcz11_1
          try clear hcz11_10
          try clear hcz11_11
          try clear hcz11_12
          try clear hcz11_13
          try clear hcz11_2
          try clear hcz11_3
          try clear hcz11_4
          try clear hcz11_5
          try clear hcz11_6
          try clear hcz11_7
          try clear hcz11_8
          try clear hcz11_9
          try clear hcz15_0
          try clear hcz15_1
          try clear hcz15_10
          try clear hcz15_11
          try clear hcz15_12
          try clear hcz15_13
          try clear hcz15_2
          try clear hcz15_3
          try clear hcz15_4
          try clear hcz15_5
          try clear hcz15_6
          try clear hcz15_7
          try clear hcz15_8
          try clear hcz15_9
          try clear hcz38_0
          try clear hcz38_1
          try clear hcz38_2
          try clear hcz38_3
          try clear hcz38_4
          try clear hcz41_0
          try clear hcz41_1
          try clear hcz41_2
          try clear hcz41_3
          try clear hcz41_4
          try clear hcz44_0
          try clear hcz44_1
          try clear hcz44_2
          try clear hcz44_3
          try clear hcz44_4
          try clear hcz47_0
          try clear hcz47_1
          try clear hcz47_2
          try clear hcz47_3
          try clear hcz47_4
          try clear hcz4_0
          try clear hcz4_1
          try clear hcz4_10
          try clear hcz4_11
          try clear hcz4_12
          try clear hcz4_13
          try clear hcz4_2
          try clear hcz4_3
          try clear hcz4_4
          try clear hcz4_5
          try clear hcz4_6
          try clear hcz4_7
          try clear hcz4_8
          try clear hcz4_9
          try clear hcz50_0
          try clear hcz50_1
          try clear hcz50_2
          try clear hcz50_3
          try clear hcz50_4
          try clear hcz7_0
          try clear hcz7_1
          try clear hcz7_10
          try clear hcz7_11
          try clear hcz7_12
          try clear hcz7_13
          try clear hcz7_2
          try clear hcz7_3
          try clear hcz7_4
          try clear hcz7_5
          try clear hcz7_6
          try clear hcz7_7
          try clear hcz7_8
          try clear hcz7_9
          try clear hfz11_0
          try clear hfz11_1
          try clear hfz11_10
          try clear hfz11_11
          try clear hfz11_12
          try clear hfz11_13
          try clear hfz11_2
          try clear hfz11_3
          try clear hfz11_4
          try clear hfz11_5
          try clear hfz11_6
          try clear hfz11_7
          try clear hfz11_8
          try clear hfz11_9
          try clear hfz15_0
          try clear hfz15_1
          try clear hfz15_10
          try clear hfz15_11
          try clear hfz15_12
          try clear hfz15_13
          try clear hfz15_2
          try clear hfz15_3
          try clear hfz15_4
          try clear hfz15_5
          try clear hfz15_6
          try clear hfz15_7
          try clear hfz15_8
          try clear hfz15_9
          try clear hfz38_0
          try clear hfz38_1
          try clear hfz38_2
          try clear hfz38_3
          try clear hfz38_4
          try clear hfz41_0
          try clear hfz41_1
          try clear hfz41_2
          try clear hfz41_3
          try clear hfz41_4
          try clear hfz44_0
          try clear hfz44_1
          try clear hfz44_2
          try clear hfz44_3
          try clear hfz44_4
          try clear hfz47_0
          try clear hfz47_1
          try clear hfz47_2
          try clear hfz47_3
          try clear hfz47_4
          try clear hfz4_0
          try clear hfz4_1
          try clear hfz4_10
          try clear hfz4_11
          try clear hfz4_12
          try clear hfz4_13
          try clear hfz4_2
          try clear hfz4_3
          try clear hfz4_4
          try clear hfz4_5
          try clear hfz4_6
          try clear hfz4_7
          try clear hfz4_8
          try clear hfz4_9
          try clear hfz50_0
          try clear hfz50_1
          try clear hfz50_2
          try clear hfz50_3
          try clear hfz50_4
          try clear hfz7_0
          try clear hfz7_1
          try clear hfz7_10
          try clear hfz7_11
          try clear hfz7_12
          try clear hfz7_13
          try clear hfz7_2
          try clear hfz7_3
          try clear hfz7_4
          try clear hfz7_5
          try clear hfz7_6
          try clear hfz7_7
          try clear hfz7_8
          try clear hfz7_9
          try clear p2
          obtain ⟨kq, x6_17, rfl, HA, HJ17, BK577, BK581, BK582, HB⟩ := hcut
          cases kq with
          | zero => exact absurd HA.out (by simp [logfile_Check.j1])
          | succ kj17 =>
            have H := HA.out
            clear HA
            simp only [logfile_Check.j1] at H
            have HC51 := Aside0.mk H
            clear H
            go_upto_region 14 with (fail)
            go_cut [7] (fun v7 wc => ∃ (kq : Nat) (x7_50 : Bool), v7 = .bool x7_50 ∧ Aside0 (logfile_Check.j2 kq x6_17 x7_50 a0_0 a0_1 a0_2 a0_3 l0_4 a0_5 a0_6 a0_7 a0_8 a0_9 a0_10 a0_11 a0_12 l0_13 = some r) ∧ Aside0 (kq ≤ kj17) ∧ Aside0 (wc.heap[gb577]? = some (.cells #[.int .i64 a0_0, .int .i64 a0_1, .int .i64 a0_2, .int .i64 a0_3, (.slice A0_4 l0_4.length c0_4), .bool a0_5, .int .i64 a0_6, .int .i64 a0_7, .int .i64 a0_8, .int .i64 a0_9, .string a0_10, .int .i64 a0_11, .int .i64 a0_12, (.slice A0_13 l0_13.length c0_13)] 141 (0, 0))) ∧ Aside0 (wc.heap[gb581]? = some (.cells #[.int .i64 a0_1, .int .i64 a0_2, .int .i64 a0_3, (.slice A0_4 l0_4.length c0_4), .bool a0_5] 86 (0, 0))) ∧ Aside0 (wc.heap[gb582]? = some (.cells #[.string a0_10, .int .i64 a0_11, .int .i64 a0_12, (.slice A0_13 l0_13.length c0_13)] 139 (0, 0))) ∧ Aside0 (Below w.heap.size w wc))
            case first =>
              have H := HC51.out
              clear HC51
              by_cases c52 : a0_10.toList = ([] : List UInt8)
              · rw [if_pos c52] at H
                have c52b0 : (a0_10.toList == ([] : List UInt8)) = true := beq_iff_eq.mpr c52
                have c52b1 : (a0_10.toList != ([] : List UInt8)) = false := bne_eq_false_iff_eq.mpr c52
                clear c52
                (first | rw [c52b0] | (simp only [i64_w, i32_w]; rw [c52b0]) | skip)
                by_cases c53 : a0_11 = 0
                · rw [if_pos c53] at H
                  have c53b0 : (a0_11 == 0) = true := beq_iff_eq.mpr c53
                  have c53b1 : (a0_11 != 0) = false := bne_eq_false_iff_eq.mpr c53
                  clear c53
                  by_cases c54 : a0_12 = 0
                  · rw [if_pos c54] at H
                    have c54b0 : (a0_12 == 0) = true := beq_iff_eq.mpr c54
                    have c54b1 : (a0_12 != 0) = false := bne_eq_false_iff_eq.mpr c54
                    clear c54
                    have H' := Aside0.mk H
                    clear H
                    have hnb55 := NB582_577.out
                    have hnc55 := NB577_582.out
                    have hnb56 := NB582_581.out
                    have hnc56 := NB581_582.out
                    have hcz57_0 : wc.cell? ⟨gb582, 0, none⟩ = some (.string a0_10) := (blk_cell BK582.out 0).trans rfl
                    have hcz57_1 : wc.cell? ⟨gb582, 1, none⟩ = some (.int .i64 a0_11) := (blk_cell BK582.out 1).trans rfl
                    have hcz57_2 : wc.cell? ⟨gb582, 2, none⟩ = some (.int .i64 a0_12) := (blk_cell BK582.out 2).trans rfl
                    have hcz57_3 : wc.cell? ⟨gb582, 3, none⟩ = some (.slice A0_13 l0_13.length c0_13) := (blk_cell BK582.out 3).trans rfl
                    have hfz57_0 := blk_frozen BK582.out 0
                    have hfz57_1 := blk_frozen BK582.out 1
                    have hfz57_2 := blk_frozen BK582.out 2
                    have hfz57_3 := blk_frozen BK582.out 3
                    go_wp2
                    go_meet
                    case rel => exact ⟨_, (((l0_13.length : Int) == 0)), (by first | rfl | (simp; done) | (simp [*]; done) | (simp only [isEmpty_ne_]; done)), H', ⟨by have := HJ1.out; have := HJ17.out; first | omega | exact Nat.le_refl _⟩, ⟨by (with_reducible repeat (first | refine blk_drewN ?_ _ | refine blk_drew ?_ | refine blk_alloc ?_ _)); exact BK577.out⟩, ⟨by (with_reducible repeat (first | refine blk_drewN ?_ _ | refine blk_drew ?_ | refine blk_alloc ?_ _)); exact BK581.out⟩, ⟨by (with_reducible repeat (first | refine blk_drewN ?_ _ | refine blk_drew ?_ | refine blk_alloc ?_ _)); exact BK582.out⟩, ⟨by repeat (first | (with_reducible first | exact HB.out | apply below_alloc | apply pw_below_drewN | apply below_drew1 | refine below_set ?_ GE577.out | refine below_set ?_ GE581.out | refine below_set ?_ GE582.out) | exact HB.out)⟩⟩
                  · exact absurd HK7.out c54
                · exact absurd HK6.out c53
              · exact absurd HK5.out c52
            case rest =>
              clear HC51
              try clear c1
              try clear p2
              try clear c3
              try clear c4
              try clear c5
              try clear c5b0
              try clear c5b1
              try clear c6
              try clear c9
              try clear c9b0
              try clear c9b1
              try clear c12
              try clear c13
              try clear c13b0
              try clear c13b1
              try clear c15
              try clear c17
              try clear c17b0
              try clear c17b1
              try clear c32
              try clear c32b0
              try clear c32b1
              try clear c33
              try clear c33b0
              try clear c33b1
              try clear c34
              try clear c34b0
              try clear c34b1
              try clear c35
              try clear c36
              try clear c37
              try clear c39
              try clear c40
              try clear c42
              try clear c43
              try clear c45
              try clear c46
              try clear c48
              try clear c49
              try clear c52
              try clear c52b0
              try clear c52b1
              try clear c53
              try clear c53b0
              try clear c53b1
              try clear c54
              try clear c54b0
              try clear c54b1
              try clear c55
              try clear c56
              try clear c58
              try clear c59
              try clear c61
              try clear c62
              try clear c64
              try clear c65
              try clear hcz11_0
              try clear hcz11_1
              try clear hcz11_10
              try clear hcz11_11
              try clear hcz11_12
              try clear hcz11_13
              try clear hcz11_2
              try clear hcz11_3
              try clear hcz11_4
              try clear hcz11_5
              try clear hcz11_6
              try clear hcz11_7
              try clear hcz11_8
              try clear hcz11_9
              try clear hcz15_0
              try clear hcz15_1
              try clear hcz15_10
              try clear hcz15_11
              try clear hcz15_12
              try clear hcz15_13
              try clear hcz15_2
              try clear hcz15_3
              try clear hcz15_4
              try clear hcz15_5
              try clear hcz15_6
              try clear hcz15_7
              try clear hcz15_8
              try clear hcz15_9
              try clear hcz38_0
              try clear hcz38_1
              try clear hcz38_2
              try clear hcz38_3
              try clear hcz38_4
              try clear hcz41_0
              try clear hcz41_1
              try clear hcz41_2
              try clear hcz41_3
              try clear hcz41_4
              try clear hcz44_0
              try clear hcz44_1
              try clear hcz44_2
              try clear hcz44_3
              try clear hcz44_4
              try clear hcz47_0
              try clear hcz47_1
              try clear hcz47_2
              try clear hcz47_3
              try clear hcz47_4
              try clear hcz4_0
              try clear hcz4_1
              try clear hcz4_10
              try clear hcz4_11
              try clear hcz4_12
              try clear hcz4_13
              try clear hcz4_2
              try clear hcz4_3
              try clear hcz4_4
              try clear hcz4_5
              try clear hcz4_6
              try clear hcz4_7
              try clear hcz4_8
              try clear hcz4_9
              try clear hcz50_0
              try clear hcz50_1
              try clear hcz50_2
              try clear hcz50_3
              try clear hcz50_4
              try clear hcz57_0
              try clear hcz57_1
              try clear hcz57_2
              try clear hcz57_3
              try clear hcz60_0
              try clear hcz60_1
              try clear hcz60_2
              try clear hcz60_3
              try clear hcz63_0
              try clear hcz63_1
              try clear hcz63_2
              try clear hcz63_3
              try clear hcz66_0
              try clear hcz66_1
              try clear hcz66_2
              try clear hcz66_3
              try clear hcz7_0
              try clear hcz7_1
              try clear hcz7_10
              try clear hcz7_11
              try clear hcz7_12
              try clear hcz7_13
              try clear hcz7_2
              try clear hcz7_3
              try clear hcz7_4
              try clear hcz7_5
              try clear hcz7_6
              try clear hcz7_7
              try clear hcz7_8
              try clear hcz7_9
              try clear hfz11_0
              try clear hfz11_1
              try clear hfz11_10
              try clear hfz11_11
              try clear hfz11_12
              try clear hfz11_13
              try clear hfz11_2
              try clear hfz11_3
              try clear hfz11_4
              try clear hfz11_5
              try clear hfz11_6
              try clear hfz11_7
              try clear hfz11_8
              try clear hfz11_9
              try clear hfz15_0
              try clear hfz15_1
              try clear hfz15_10
              try clear hfz15_11
              try clear hfz15_12
              try clear hfz15_13
              try clear hfz15_2
              try clear hfz15_3
              try clear hfz15_4
              try clear hfz15_5
              try clear hfz15_6
              try clear hfz15_7
              try clear hfz15_8
              try clear hfz15_9
              try clear hfz38_0
              try clear hfz38_1
              try clear hfz38_2
              try clear hfz38_3
              try clear hfz38_4
              try clear hfz41_0
              try clear hfz41_1
              try clear hfz41_2
              try clear hfz41_3
              try clear hfz41_4
              try clear hfz44_0
              try clear hfz44_1
              try clear hfz44_2
              try clear hfz44_3
              try clear hfz44_4
              try clear hfz47_0
              try clear hfz47_1
              try clear hfz47_2
              try clear hfz47_3
              try clear hfz47_4
              try clear hfz4_0
              try clear hfz4_1
              try clear hfz4_10
              try clear hfz4_11
              try clear hfz4_12
              try clear hfz4_13
              try clear hfz4_2
              try clear hfz4_3
              try clear hfz4_4
              try clear hfz4_5
              try clear hfz4_6
              try clear hfz4_7
              try clear hfz4_8
              try clear hfz4_9
              try clear hfz50_0
              try clear hfz50_1
              try clear hfz50_2
              try clear hfz50_3
              try clear hfz50_4
              try clear hfz57_0
              try clear hfz57_1
              try clear hfz57_2
              try clear hfz57_3
              try clear hfz60_0
              try clear hfz60_1
              try clear hfz60_2
              try clear hfz60_3
              try clear hfz63_0
              try clear hfz63_1
              try clear hfz63_2
              try clear hfz63_3
              try clear hfz66_0
              try clear hfz66_1
              try clear hfz66_2
              try clear hfz66_3
              try clear hfz7_0
              try clear hfz7_1
              try clear hfz7_10
              try clear hfz7_11
              try clear hfz7_12
              try clear hfz7_13
              try clear hfz7_2
              try clear hfz7_3
              try clear hfz7_4
              try clear hfz7_5
              try clear hfz7_6
              try clear hfz7_7
              try clear hfz7_8
              try clear hfz7_9
              try clear p2
              obtain ⟨kq, x7_50, rfl, HA, HJ50, BK577, BK581, BK582, HB⟩ := hcut
              cases kq with
              | zero => exact absurd HA.out (by simp [logfile_Check.j2])
              | succ kj50 =>
                have H := HA.out
                clear HA
                simp only [logfile_Check.j2] at H
                have HC67 := Aside0.mk H
                clear H
                go_upto_region 15 with (fail)
                go_cut [101] (fun v101 wc => ∃ (kq : Nat) (x101_66 : Bool), v101 = .bool x101_66 ∧ Aside0 (logfile_Check.j3 kq x101_66 = some r) ∧ Aside0 (kq ≤ kj50) ∧ Aside0 (wc.heap[gb577]? = some (.cells #[.int .i64 a0_0, .int .i64 a0_1, .int .i64 a0_2, .int .i64 a0_3, (.slice A0_4 l0_4.length c0_4), .bool a0_5, .int .i64 a0_6, .int .i64 a0_7, .int .i64 a0_8, .int .i64 a0_9, .string a0_10, .int .i64 a0_11, .int .i64 a0_12, (.slice A0_13 l0_13.length c0_13)] 141 (0, 0))) ∧ Aside0 (wc.heap[gb581]? = some (.cells #[.int .i64 a0_1, .int .i64 a0_2, .int .i64 a0_3, (.slice A0_4 l0_4.length c0_4), .bool a0_5] 86 (0, 0))) ∧ Aside0 (wc.heap[gb582]? = some (.cells #[.string a0_10, .int .i64 a0_11, .int .i64 a0_12, (.slice A0_13 l0_13.length c0_13)] 139 (0, 0))) ∧ Aside0 (Below w.heap.size w wc))
                case first =>
                  have H := HC67.out
                  clear HC67
                  by_cases c68 : a0_0 = 1
                  · exact absurd c68 (by rw [HK0.out]; decide)
                  · rw [if_neg c68] at H
                    have c68b0 : (a0_0 == 1) = false := beq_eq_false_iff_ne.mpr c68
                    have c68b1 : (a0_0 != 1) = true := bne_iff_ne.mpr c68
                    (first | rw [c68b0] | (simp only [i64_w, i32_w]; rw [c68b0]) | skip)
                    by_cases c88 : x6_17 = true
                    · subst c88
                      have H1 : (if a0_0 = 2 then (if a0_0 = 3 then (logfile_Check.j3 kj50 false) else (logfile_Check.j3 kj50 (!x7_50))) else (if (!(a0_6 == 0) || (!(a0_7 == 0) || (!(a0_8 == 0) || (!(a0_9 == 0))))) = true then (logfile_Check.j3 kj50 true) else (if a0_0 = 3 then (logfile_Check.j3 kj50 false) else (logfile_Check.j3 kj50 (!x7_50))))) = some r := by rw [if_pos rfl] at H; exact H
                      clear H
                      have H := H1
                      clear H1
                      by_cases c89 : a0_0 = 2
                      · rw [if_pos c89] at H
                        have c89b0 : (a0_0 == 2) = true := beq_iff_eq.mpr c89
                        have c89b1 : (a0_0 != 2) = false := bne_eq_false_iff_eq.mpr c89
                        clear c89
                        by_cases c90 : a0_0 = 3
                        · exact absurd c90 (by rw [HK0.out]; decide)
                        · rw [if_neg c90] at H
                          have c90b0 : (a0_0 == 3) = false := beq_eq_false_iff_ne.mpr c90
                          have c90b1 : (a0_0 != 3) = true := bne_iff_ne.mpr c90
                          have H' := Aside0.mk H
                          clear H
                          have hnb94 := NB577_581.out
                          have hnc94 := NB581_577.out
                          have hnb95 := NB577_582.out
                          have hnc95 := NB582_577.out
                          have hcz96_0 : wc.cell? ⟨gb577, 0, none⟩ = some (.int .i64 a0_0) := (blk_cell BK577.out 0).trans rfl
                          have hcz96_1 : wc.cell? ⟨gb577, 1, none⟩ = some (.int .i64 a0_1) := (blk_cell BK577.out 1).trans rfl
                          have hcz96_2 : wc.cell? ⟨gb577, 2, none⟩ = some (.int .i64 a0_2) := (blk_cell BK577.out 2).trans rfl
                          have hcz96_3 : wc.cell? ⟨gb577, 3, none⟩ = some (.int .i64 a0_3) := (blk_cell BK577.out 3).trans rfl
                          have hcz96_4 : wc.cell? ⟨gb577, 4, none⟩ = some (.slice A0_4 l0_4.length c0_4) := (blk_cell BK577.out 4).trans rfl
                          have hcz96_5 : wc.cell? ⟨gb577, 5, none⟩ = some (.bool a0_5) := (blk_cell BK577.out 5).trans rfl
                          have hcz96_6 : wc.cell? ⟨gb577, 6, none⟩ = some (.int .i64 a0_6) := (blk_cell BK577.out 6).trans rfl
                          have hcz96_7 : wc.cell? ⟨gb577, 7, none⟩ = some (.int .i64 a0_7) := (blk_cell BK577.out 7).trans rfl
                          have hcz96_8 : wc.cell? ⟨gb577, 8, none⟩ = some (.int .i64 a0_8) := (blk_cell BK577.out 8).trans rfl
                          have hcz96_9 : wc.cell? ⟨gb577, 9, none⟩ = some (.int .i64 a0_9) := (blk_cell BK577.out 9).trans rfl
                          have hcz96_10 : wc.cell? ⟨gb577, 10, none⟩ = some (.string a0_10) := (blk_cell BK577.out 10).trans rfl
                          have hcz96_11 : wc.cell? ⟨gb577, 11, none⟩ = some (.int .i64 a0_11) := (blk_cell BK577.out 11).trans rfl
                          have hcz96_12 : wc.cell? ⟨gb577, 12, none⟩ = some (.int .i64 a0_12) := (blk_cell BK577.out 12).trans rfl
                          have hcz96_13 : wc.cell? ⟨gb577, 13, none⟩ = some (.slice A0_13 l0_13.length c0_13) := (blk_cell BK577.out 13).trans rfl
                          have hfz96_0 := blk_frozen BK577.out 0
                          have hfz96_1 := blk_frozen BK577.out 1
                          have hfz96_2 := blk_frozen BK577.out 2
                          have hfz96_3 := blk_frozen BK577.out 3
                          have hfz96_4 := blk_frozen BK577.out 4
                          have hfz96_5 := blk_frozen BK577.out 5
                          have hfz96_6 := blk_frozen BK577.out 6
                          have hfz96_7 := blk_frozen BK577.out 7
                          have hfz96_8 := blk_frozen BK577.out 8
                          have hfz96_9 := blk_frozen BK577.out 9
                          have hfz96_10 := blk_frozen BK577.out 10
                          have hfz96_11 := blk_frozen BK577.out 11
                          have hfz96_12 := blk_frozen BK577.out 12
                          have hfz96_13 := blk_frozen BK577.out 13
                          go_wp2
                          go_meet
                          case rel => exact ⟨_, (!x7_50), (by first | rfl | (simp; done) | (simp [*]; done) | (simp only [isEmpty_ne_]; done)), H', ⟨by have := HJ1.out; have := HJ17.out; have := HJ50.out; first | omega | exact Nat.le_refl _⟩, ⟨by (with_reducible repeat (first | refine blk_drewN ?_ _ | refine blk_drew ?_ | refine blk_alloc ?_ _)); exact BK577.out⟩, ⟨by (with_reducible repeat (first | refine blk_drewN ?_ _ | refine blk_drew ?_ | refine blk_alloc ?_ _)); exact BK581.out⟩, ⟨by (with_reducible repeat (first | refine blk_drewN ?_ _ | refine blk_drew ?_ | refine blk_alloc ?_ _)); exact BK582.out⟩, ⟨by repeat (first | (with_reducible first | exact HB.out | apply below_alloc | apply pw_below_drewN | apply below_drew1 | refine below_set ?_ GE577.out | refine below_set ?_ GE581.out | refine below_set ?_ GE582.out) | exact HB.out)⟩⟩
                      · exact absurd HK0.out c89
                    · replace c88 := Bool.eq_false_iff.mpr c88
                      subst c88
                      have H1 : (logfile_Check.j3 kj50 true) = some r := by rw [if_neg (show ¬ (false = true) by decide)] at H; exact H
                      clear H
                      have H := H1
                      clear H1
                      have H' := Aside0.mk H
                      clear H
                      have hnb108 := NB577_581.out
                      have hnc108 := NB581_577.out
                      have hnb109 := NB577_582.out
                      have hnc109 := NB582_577.out
                      have hcz110_0 : wc.cell? ⟨gb577, 0, none⟩ = some (.int .i64 a0_0) := (blk_cell BK577.out 0).trans rfl
                      have hcz110_1 : wc.cell? ⟨gb577, 1, none⟩ = some (.int .i64 a0_1) := (blk_cell BK577.out 1).trans rfl
                      have hcz110_2 : wc.cell? ⟨gb577, 2, none⟩ = some (.int .i64 a0_2) := (blk_cell BK577.out 2).trans rfl
                      have hcz110_3 : wc.cell? ⟨gb577, 3, none⟩ = some (.int .i64 a0_3) := (blk_cell BK577.out 3).trans rfl
                      have hcz110_4 : wc.cell? ⟨gb577, 4, none⟩ = some (.slice A0_4 l0_4.length c0_4) := (blk_cell BK577.out 4).trans rfl
                      have hcz110_5 : wc.cell? ⟨gb577, 5, none⟩ = some (.bool a0_5) := (blk_cell BK577.out 5).trans rfl
                      have hcz110_6 : wc.cell? ⟨gb577, 6, none⟩ = some (.int .i64 a0_6) := (blk_cell BK577.out 6).trans rfl
                      have hcz110_7 : wc.cell? ⟨gb577, 7, none⟩ = some (.int .i64 a0_7) := (blk_cell BK577.out 7).trans rfl
                      have hcz110_8 : wc.cell? ⟨gb577, 8, none⟩ = some (.int .i64 a0_8) := (blk_cell BK577.out 8).trans rfl
                      have hcz110_9 : wc.cell? ⟨gb577, 9, none⟩ = some (.int .i64 a0_9) := (blk_cell BK577.out 9).trans rfl
                      have hcz110_10 : wc.cell? ⟨gb577, 10, none⟩ = some (.string a0_10) := (blk_cell BK577.out 10).trans rfl
                      have hcz110_11 : wc.cell? ⟨gb577, 11, none⟩ = some (.int .i64 a0_11) := (blk_cell BK577.out 11).trans rfl
                      have hcz110_12 : wc.cell? ⟨gb577, 12, none⟩ = some (.int .i64 a0_12) := (blk_cell BK577.out 12).trans rfl
                      have hcz110_13 : wc.cell? ⟨gb577, 13, none⟩ = some (.slice A0_13 l0_13.length c0_13) := (blk_cell BK577.out 13).trans rfl
                      have hfz110_0 := blk_frozen BK577.out 0
                      have hfz110_1 := blk_frozen BK577.out 1
                      have hfz110_2 := blk_frozen BK577.out 2
                      have hfz110_3 := blk_frozen BK577.out 3
                      have hfz110_4 := blk_frozen BK577.out 4
                      have hfz110_5 := blk_frozen BK577.out 5
                      have hfz110_6 := blk_frozen BK577.out 6
                      have hfz110_7 := blk_frozen BK577.out 7
                      have hfz110_8 := blk_frozen BK577.out 8
                      have hfz110_9 := blk_frozen BK577.out 9
                      have hfz110_10 := blk_frozen BK577.out 10
                      have hfz110_11 := blk_frozen BK577.out 11
                      have hfz110_12 := blk_frozen BK577.out 12
                      have hfz110_13 := blk_frozen BK577.out 13
                      go_wp2
                      go_meet
                      case rel => exact ⟨_, (true), (by first | rfl | (simp; done) | (simp [*]; done) | (simp only [isEmpty_ne_]; done)), H', ⟨by have := HJ1.out; have := HJ17.out; have := HJ50.out; first | omega | exact Nat.le_refl _⟩, ⟨by (with_reducible repeat (first | refine blk_drewN ?_ _ | refine blk_drew ?_ | refine blk_alloc ?_ _)); exact BK577.out⟩, ⟨by (with_reducible repeat (first | refine blk_drewN ?_ _ | refine blk_drew ?_ | refine blk_alloc ?_ _)); exact BK581.out⟩, ⟨by (with_reducible repeat (first | refine blk_drewN ?_ _ | refine blk_drew ?_ | refine blk_alloc ?_ _)); exact BK582.out⟩, ⟨by repeat (first | (with_reducible first | exact HB.out | apply below_alloc | apply pw_below_drewN | apply below_drew1 | refine below_set ?_ GE577.out | refine below_set ?_ GE581.out | refine below_set ?_ GE582.out) | exact HB.out)⟩⟩
                case rest =>
                  clear HC67
                  try clear c1
                  try clear p2
                  try clear c6
                  try clear c7
                  try clear c8
                  try clear c9
                  try clear c10
                  try clear c68
                  try clear c68b0
                  try clear c68b1
                  try clear c69
                  try clear c69b0
                  try clear c69b1
                  try clear c70
                  try clear c70b0
                  try clear c70b1
                  try clear c71
                  try clear c72
                  try clear c74
                  try clear c75
                  try clear c77
                  try clear c77b0
                  try clear c78
                  try clear c79
                  try clear c81
                  try clear c81b0
                  try clear c81b1
                  try clear c82
                  try clear c83
                  try clear c85
                  try clear c86
                  try clear c88
                  try clear c89
                  try clear c89b0
                  try clear c89b1
                  try clear c90
                  try clear c90b0
                  try clear c90b1
                  try clear c91
                  try clear c92
                  try clear c94
                  try clear c95
                  try clear c97
                  try clear c97b0
                  try clear c98
                  try clear c99
                  try clear c101
                  try clear c101b0
                  try clear c101b1
                  try clear c102
                  try clear c103
                  try clear c105
                  try clear c106
                  try clear c108
                  try clear c109
                  try clear hcz100_0
                  try clear hcz100_1
                  try clear hcz100_10
                  try clear hcz100_11
                  try clear hcz100_12
                  try clear hcz100_13
                  try clear hcz100_2
                  try clear hcz100_3
                  try clear hcz100_4
                  try clear hcz100_5
                  try clear hcz100_6
                  try clear hcz100_7
                  try clear hcz100_8
                  try clear hcz100_9
                  try clear hcz104_0
                  try clear hcz104_1
                  try clear hcz104_10
                  try clear hcz104_11
                  try clear hcz104_12
                  try clear hcz104_13
                  try clear hcz104_2
                  try clear hcz104_3
                  try clear hcz104_4
                  try clear hcz104_5
                  try clear hcz104_6
                  try clear hcz104_7
                  try clear hcz104_8
                  try clear hcz104_9
                  try clear hcz107_0
                  try clear hcz107_1
                  try clear hcz107_10
                  try clear hcz107_11
                  try clear hcz107_12
                  try clear hcz107_13
                  try clear hcz107_2
                  try clear hcz107_3
                  try clear hcz107_4
                  try clear hcz107_5
                  try clear hcz107_6
                  try clear hcz107_7
                  try clear hcz107_8
                  try clear hcz107_9
                  try clear hcz110_0
                  try clear hcz110_1
                  try clear hcz110_10
                  try clear hcz110_11
                  try clear hcz110_12
                  try clear hcz110_13
                  try clear hcz110_2
                  try clear hcz110_3
                  try clear hcz110_4
                  try clear hcz110_5
                  try clear hcz110_6
                  try clear hcz110_7
                  try clear hcz110_8
                  try clear hcz110_9
                  try clear hcz73_0
                  try clear hcz73_1
                  try clear hcz73_10
                  try clear hcz73_11
                  try clear hcz73_12
                  try clear hcz73_13
                  try clear hcz73_2
                  try clear hcz73_3
                  try clear hcz73_4
                  try clear hcz73_5
                  try clear hcz73_6
                  try clear hcz73_7
                  try clear hcz73_8
                  try clear hcz73_9
                  try clear hcz76_0
                  try clear hcz76_1
                  try clear hcz76_10
                  try clear hcz76_11
                  try clear hcz76_12
                  try clear hcz76_13
                  try clear hcz76_2
                  try clear hcz76_3
                  try clear hcz76_4
                  try clear hcz76_5
                  try clear hcz76_6
                  try clear hcz76_7
                  try clear hcz76_8
                  try clear hcz76_9
                  try clear hcz80_0
                  try clear hcz80_1
                  try clear hcz80_10
                  try clear hcz80_11
                  try clear hcz80_12
                  try clear hcz80_13
                  try clear hcz80_2
                  try clear hcz80_3
                  try clear hcz80_4
                  try clear hcz80_5
                  try clear hcz80_6
                  try clear hcz80_7
                  try clear hcz80_8
                  try clear hcz80_9
                  try clear hcz84_0
                  try clear hcz84_1
                  try clear hcz84_10
                  try clear hcz84_11
                  try clear hcz84_12
                  try clear hcz84_13
                  try clear hcz84_2
                  try clear hcz84_3
                  try clear hcz84_4
                  try clear hcz84_5
                  try clear hcz84_6
                  try clear hcz84_7
                  try clear hcz84_8
                  try clear hcz84_9
                  try clear hcz87_0
                  try clear hcz87_1
                  try clear hcz87_10
                  try clear hcz87_11
                  try clear hcz87_12
                  try clear hcz87_13
                  try clear hcz87_2
                  try clear hcz87_3
                  try clear hcz87_4
                  try clear hcz87_5
                  try clear hcz87_6
                  try clear hcz87_7
                  try clear hcz87_8
                  try clear hcz87_9
                  try clear hcz93_0
                  try clear hcz93_1
                  try clear hcz93_10
                  try clear hcz93_11
                  try clear hcz93_12
                  try clear hcz93_13
                  try clear hcz93_2
                  try clear hcz93_3
                  try clear hcz93_4
                  try clear hcz93_5
                  try clear hcz93_6
                  try clear hcz93_7
                  try clear hcz93_8
                  try clear hcz93_9
                  try clear hcz96_0
                  try clear hcz96_1
                  try clear hcz96_10
                  try clear hcz96_11
                  try clear hcz96_12
                  try clear hcz96_13
                  try clear hcz96_2
                  try clear hcz96_3
                  try clear hcz96_4
                  try clear hcz96_5
                  try clear hcz96_6
                  try clear hcz96_7
                  try clear hcz96_8
                  try clear hcz96_9
                  try clear hfz100_0
                  try clear hfz100_1
                  try clear hfz100_10
                  try clear hfz100_11
                  try clear hfz100_12
                  try clear hfz100_13
                  try clear hfz100_2
                  try clear hfz100_3
                  try clear hfz100_4
                  try clear hfz100_5
                  try clear hfz100_6
                  try clear hfz100_7
                  try clear hfz100_8
                  try clear hfz100_9
                  try clear hfz104_0
                  try clear hfz104_1
                  try clear hfz104_10
                  try clear hfz104_11
                  try clear hfz104_12
                  try clear hfz104_13
                  try clear hfz104_2
                  try clear hfz104_3
                  try clear hfz104_4
                  try clear hfz104_5
                  try clear hfz104_6
                  try clear hfz104_7
                  try clear hfz104_8
                  try clear hfz104_9
                  try clear hfz107_0
                  try clear hfz107_1
                  try clear hfz107_10
                  try clear hfz107_11
                  try clear hfz107_12
                  try clear hfz107_13
                  try clear hfz107_2
                  try clear hfz107_3
                  try clear hfz107_4
                  try clear hfz107_5
                  try clear hfz107_6
                  try clear hfz107_7
                  try clear hfz107_8
                  try clear hfz107_9
                  try clear hfz110_0
                  try clear hfz110_1
                  try clear hfz110_10
                  try clear hfz110_11
                  try clear hfz110_12
                  try clear hfz110_13
                  try clear hfz110_2
                  try clear hfz110_3
                  try clear hfz110_4
                  try clear hfz110_5
                  try clear hfz110_6
                  try clear hfz110_7
                  try clear hfz110_8
                  try clear hfz110_9
                  try clear hfz11_13
                  try clear hfz11_2
                  try clear hfz11_3
                  try clear hfz11_4
                  try clear hfz11_5
                  try clear hfz11_6
                  try clear hfz11_7
                  try clear hfz11_8
                  try clear hfz11_9
                  try clear hfz15_0
                  try clear hfz15_1
                  try clear hfz15_10
                  try clear hfz15_11
                  try clear hfz15_12
                  try clear hfz15_13
                  try clear hfz15_2
                  try clear hfz15_3
                  try clear hfz15_4
                  try clear hfz15_5
                  try clear hfz15_6
                  try clear hfz15_7
                  try clear hfz15_8
                  try clear hfz15_9
                  try clear hfz38_0
                  try clear hfz38_1
                  try clear hfz38_2
                  try clear hfz38_3
                  try clear hfz38_4
                  try clear hfz41_0
                  try clear hfz41_1
                  try clear hfz41_2
                  try clear hfz41_3
                  try clear hfz41_4
                  try clear hfz44_0
                  try clear hfz44_1
                  try clear hfz44_2
                  try clear hfz44_3
                  try clear hfz44_4
                  try clear hfz47_0
                  try clear hfz47_1
                  try clear hfz47_2
                  try clear hfz47_3
                  try clear hfz47_4
                  try clear hfz4_0
                  try clear hfz4_1
                  try clear hfz4_10
                  try clear hfz4_11
                  try clear hfz4_12
                  try clear hfz4_13
                  try clear hfz4_2
                  try clear hfz4_3
                  try clear hfz4_4
                  try clear hfz4_5
                  try clear hfz4_6
                  try clear hfz4_7
                  try clear hfz4_8
                  try clear hfz4_9
                  try clear hfz50_0
                  try clear hfz50_1
                  try clear hfz50_2
                  try clear hfz50_3
                  try clear hfz50_4
                  try clear hfz57_0
                  try clear hfz57_1
                  try clear hfz57_2
                  try clear hfz57_3
                  try clear hfz60_0
                  try clear hfz60_1
                  try clear hfz60_2
                  try clear hfz60_3
                  try clear hfz63_0
                  try clear hfz63_1
                  try clear hfz63_2
                  try clear hfz63_3
                  try clear hfz66_0
                  try clear hfz66_1
                  try clear hfz66_2
                  try clear hfz66_3
                  try clear hfz73_0
                  try clear hfz73_1
                  try clear hfz73_10
                  try clear hfz73_11
                  try clear hfz73_12
                  try clear hfz73_13
                  try clear hfz73_2
                  try clear hfz73_3
                  try clear hfz73_4
                  try clear hfz73_5
                  try clear hfz73_6
                  try clear hfz73_7
                  try clear hfz73_8
                  try clear hfz73_9
                  try clear hfz76_0
                  try clear hfz76_1
                  try clear hfz76_10
                  try clear hfz76_11
                  try clear hfz76_12
                  try clear hfz76_13
                  try clear hfz76_2
                  try clear hfz76_3
                  try clear hfz76_4
                  try clear hfz76_5
                  try clear hfz76_6
                  try clear hfz76_7
                  try clear hfz76_8
                  try clear hfz76_9
                  try clear hfz7_0
                  try clear hfz7_1
                  try clear hfz7_10
                  try clear hfz7_11
                  try clear hfz7_12
                  try clear hfz7_13
                  try clear hfz7_2
                  try clear hfz7_3
                  try clear hfz7_4
                  try clear hfz7_5
                  try clear hfz7_6
                  try clear hfz7_7
                  try clear hfz7_8
                  try clear hfz7_9
                  try clear hfz80_0
                  try clear hfz80_1
                  try clear hfz80_10
                  try clear hfz80_11
                  try clear hfz80_12
                  try clear hfz80_13
                  try clear hfz80_2
                  try clear hfz80_3
                  try clear hfz80_4
                  try clear hfz80_5
                  try clear hfz80_6
                  try clear hfz80_7
                  try clear hfz80_8
                  try clear hfz80_9
                  try clear hfz84_0
                  try clear hfz84_1
                  try clear hfz84_10
                  try clear hfz84_11
                  try clear hfz84_12
                  try clear hfz84_13
                  try clear hfz84_2
                  try clear hfz84_3
                  try clear hfz84_4
                  try clear hfz84_5
                  try clear hfz84_6
                  try clear hfz84_7
                  try clear hfz84_8
                  try clear hfz84_9
                  try clear hfz87_0
                  try clear hfz87_1
                  try clear hfz87_10
                  try clear hfz87_11
                  try clear hfz87_12
                  try clear hfz87_13
                  try clear hfz87_2
                  try clear hfz87_3
                  try clear hfz87_4
                  try clear hfz87_5
                  try clear hfz87_6
                  try clear hfz87_7
                  try clear hfz87_8
                  try clear hfz87_9
                  try clear hfz93_0
                  try clear hfz93_1
                  try clear hfz93_10
                  try clear hfz93_11
                  try clear hfz93_12
                  try clear hfz93_13
                  try clear hfz93_2
                  try clear hfz93_3
                  try clear hfz93_4
                  try clear hfz93_5
                  try clear hfz93_6
                  try clear hfz93_7
                  try clear hfz93_8
                  try clear hfz93_9
                  try clear hfz96_0
                  try clear hfz96_1
                  try clear hfz96_10
                  try clear hfz96_11
                  try clear hfz96_12
                  try clear hfz96_13
                  try clear hfz96_2
                  try clear hfz96_3
                  try clear hfz96_4
                  try clear hfz96_5
                  try clear hfz96_6
                  try clear hfz96_7
                  try clear hfz96_8
                  try clear hfz96_9
                  try clear p2
                  obtain ⟨kq, x101_66, rfl, HA, HJ66, BK577, BK581, BK582, HB⟩ := hcut
                  cases kq with
                  | zero => exact absurd HA.out (by simp [logfile_Check.j3])
                  | succ kj66 =>
                    have H := HA.out
                    clear HA
                    simp only [logfile_Check.j3] at H
                    by_cases c111 : x101_66 = true
                    · subst c111
                      have H1 : (some 250) = some r := by rw [if_pos rfl] at H; exact H
                      clear H
                      have H := H1
                      clear H1
                      obtain rfl := Option.some.inj H
                      go_wp2
                      go_ret
                      exact ⟨by first | rfl | (simp [errW_none, errW_some] <;> rfl) | (simp [*, errW_none, errW_some] <;> rfl) | (simp only [isEmpty_ne_, isEmpty_eq_]; rfl) | (simp [*, isEmpty_ne_, isEmpty_eq_]; done), by repeat (first | (with_reducible first | exact HB.out | apply below_alloc | apply pw_below_drewN | apply below_drew1 | refine below_set ?_ GE577.out | refine below_set ?_ GE581.out | refine below_set ?_ GE582.out) | exact HB.out)⟩
                    · replace c111 := Bool.eq_false_iff.mpr c111
                      subst c111
                      have H1 : (some 0) = some r := by rw [if_neg (show ¬ (false = true) by decide)] at H; exact H
                      clear H
                      have H := H1
                      clear H1
                      obtain rfl := Option.some.inj H
                      go_wp2
                      go_ret
                      exact ⟨by first | rfl | (simp [errW_none, errW_some] <;> rfl) | (simp [*, errW_none, errW_some] <;> rfl) | (simp only [isEmpty_ne_, isEmpty_eq_]; rfl) | (simp [*, isEmpty_ne_, isEmpty_eq_]; done), by repeat (first | (with_reducible first | exact HB.out | apply below_alloc | apply pw_below_drewN | apply below_drew1 | refine below_set ?_ GE577.out | refine below_set ?_ GE581.out | refine below_set ?_ GE582.out) | exact HB.out)⟩
      · rw [if_neg c17] at H
        have c17b0 : (x3_1 == 0) = false := beq_eq_false_iff_ne.mpr c17
        have c17b1 : (x3_1 != 0) = true := bne_iff_ne.mpr c17
        obtain rfl := Option.some.inj H
        go_wp2
        go_ret
        exact ⟨by first | rfl | (simp [errW_none, errW_some] <;> rfl) | (simp [*, errW_none, errW_some] <;> rfl) | (simp only [isEmpty_ne_, isEmpty_eq_]; rfl) | (simp [*, isEmpty_ne_, isEmpty_eq_]; done), by repeat (first | (with_reducible first | exact HB.out | apply below_alloc | apply pw_below_drewN | apply below_drew1 | refine below_set ?_ GE577.out) | exact HB.out)⟩
end Go.Proofs.YtjnlmmjadlidlaaDoor.PRec
end
section
namespace Go.Proofs.YtjnlmmjadlidlaaDoor.PRec
open Go.RowKit Go.Proofs.YtjnlmmjadlidlaaDoorW.PrintWords Go.Proofs.YtjnlmmjadlidlaaDoorW.PrintLast Go.Proofs.YtjnlmmjadlidlaaDoorW.PrintMore
attribute [local go_sem] max2_int min2_int max_two min_two max_three min_three max_four min_four
set_option linter.unusedVariables false
set_option linter.unusedSimpArgs false
def logfile_Encode.l0 : Nat → List Int → List (S50) → Int → Int → Int → Int → Int → Int → List (S50) → Bool → Int → Int → Int → Int → ByteArray → Int → Int → List Int → Option (List Int × Int)
  | 0, _, _, _, _, _, _, _, _, _, _, _, _, _, _, _, _, _, _ => none
  | k + 1, x5, x35, x36, x37, x584000, x584001, x584002, x584003, x584004, x584005, x584006, x584007, x584008, x584009, x584010, x584011, x584012, x584013 => if x37 < x36 then (if 0 ≤ x37 then (if x37 < (x35.length : Int) then ((record_Format.f k ((rd_T50 x35 x37).f0) ((rd_T50 x35 x37).f1) ((rd_T50 x35 x37).f2) ((rd_T50 x35 x37).f3)).bind fun bt599 => (if bt599.2 = 0 then ((logfile_appendNumbers.f k x5 (([(bt599.1.size : Int)] : List Int))).bind fun t604 => (if t604.length + bt599.1.size < 140737488355328 then (logfile_Encode.l0 k (t604 ++ bytesOf bt599.1) x35 x36 (wrap64 (x37 + 1)) x584000 x584001 x584002 x584003 x584004 x584005 x584006 x584007 x584008 x584009 x584010 x584011 x584012 x584013) else (none))) else (some (([] : List Int), 251)))) else (none)) else (none)) else (if x584000 = 3 then (some (x5, 0)) else (if (x5.length : Int) > 16320 then (some (([] : List Int), 254)) else (some (x5, 0))))
def logfile_Encode.f (k : Nat) (a0_0 : Int) (a0_1 : Int) (a0_2 : Int) (a0_3 : Int) (l0_4 : List (S50)) (a0_5 : Bool) (a0_6 : Int) (a0_7 : Int) (a0_8 : Int) (a0_9 : Int) (a0_10 : ByteArray) (a0_11 : Int) (a0_12 : Int) (l0_13 : List Int) : Option (List Int × Int) := (logfile_Check.f k a0_0 a0_1 a0_2 a0_3 l0_4 a0_5 a0_6 a0_7 a0_8 a0_9 a0_10 a0_11 a0_12 l0_13).bind fun t584 => (if t584 = 0 then ((logfile_appendNumbers.f k ([] : List Int) (([a0_0] : List Int))).bind fun t588 => (if a0_0 = 1 then ((logfile_appendNumbers.f k t588 (([a0_1, (l0_4.length : Int)] : List Int))).bind fun t594 => (logfile_Encode.l0 k t594 l0_4 (l0_4.length : Int) 0 a0_0 a0_1 a0_2 a0_3 l0_4 a0_5 a0_6 a0_7 a0_8 a0_9 a0_10 a0_11 a0_12 l0_13)) else (if a0_0 = 2 then ((logfile_appendNumbers.f k t588 (([a0_6, a0_7, a0_8, a0_9] : List Int))).bind fun t613 => (if a0_0 = 3 then (some (t613, 0)) else (if (t613.length : Int) > 16320 then (some (([] : List Int), 254)) else (some (t613, 0))))) else (if a0_0 = 3 then ((logfile_appendNumbers.f k t588 (([(a0_10.size : Int)] : List Int))).bind fun t619 => (if t619.length + a0_10.size < 140737488355328 then ((logfile_appendNumbers.f k (t619 ++ bytesOf a0_10) (([a0_11, a0_12] : List Int))).bind fun t628 => (if t628.length + l0_13.length < 140737488355328 then (some ((t628 ++ l0_13), 0)) else (none))) else (none))) else (if (t588.length : Int) > 16320 then (some (([] : List Int), 254)) else (some (t588, 0))))))) else (some (([] : List Int), t584)))
theorem logfile_Encode.mono_l : ∀ k, (∀ y0 y1 y2 y3 y4 y5 y6 y7 y8 y9 y10 y11 y12 y13 y14 y15 y16 y17, LeO (logfile_Encode.l0 k y0 y1 y2 y3 y4 y5 y6 y7 y8 y9 y10 y11 y12 y13 y14 y15 y16 y17) (logfile_Encode.l0 (k + 1) y0 y1 y2 y3 y4 y5 y6 y7 y8 y9 y10 y11 y12 y13 y14 y15 y16 y17))
  | 0 => fun _ _ _ _ _ _ _ _ _ _ _ _ _ _ _ _ _ _ r h => by simp [logfile_Encode.l0] at h
  | k + 1 => by
    have ih0 := logfile_Encode.mono_l k
    · intro y0 y1 y2 y3 y4 y5 y6 y7 y8 y9 y10 y11 y12 y13 y14 y15 y16 y17
      unfold logfile_Encode.l0
      repeat' first
      | (with_reducible exact ih0 _ _ _ _ _ _ _ _ _ _ _ _ _ _ _ _ _ _)
      | (with_reducible exact logfile_Check.mono _ _ _ _ _ _ _ _ _ _ _ _ _ _ _)
      | (with_reducible exact logfile_appendNumbers.mono _ _ _)
      | (with_reducible exact record_Format.mono _ _ _ _ _)
      | (with_reducible exact LeO.refl _)
      | (with_reducible exact LeO.none _)
      | (with_reducible refine LeO.ite ?_ ?_)
      | (with_reducible refine LeO.bind ?_ (fun _ => ?_))
      | exact ih0 _ _ _ _ _ _ _ _ _ _ _ _ _ _ _ _ _ _
      | exact logfile_Check.mono _ _ _ _ _ _ _ _ _ _ _ _ _ _ _
      | exact logfile_appendNumbers.mono _ _ _
      | exact record_Format.mono _ _ _ _ _
      | exact LeO.none _
      | refine LeO.ite ?_ ?_
      | refine LeO.bind ?_ (fun _ => ?_)
theorem logfile_Encode.mono : ∀ a0 a1 a2 a3 a4 a5 a6 a7 a8 a9 a10 a11 a12 a13 k, LeO (logfile_Encode.f k a0 a1 a2 a3 a4 a5 a6 a7 a8 a9 a10 a11 a12 a13) (logfile_Encode.f (k + 1) a0 a1 a2 a3 a4 a5 a6 a7 a8 a9 a10 a11 a12 a13) := by
  intro a0 a1 a2 a3 a4 a5 a6 a7 a8 a9 a10 a11 a12 a13 k
  have ih0 := logfile_Encode.mono_l k
  unfold logfile_Encode.f
  repeat' first
      | (with_reducible exact ih0 _ _ _ _ _ _ _ _ _ _ _ _ _ _ _ _ _ _)
      | (with_reducible exact logfile_Check.mono _ _ _ _ _ _ _ _ _ _ _ _ _ _ _)
      | (with_reducible exact logfile_appendNumbers.mono _ _ _)
      | (with_reducible exact record_Format.mono _ _ _ _ _)
      | (with_reducible exact LeO.refl _)
      | (with_reducible exact LeO.none _)
      | (with_reducible refine LeO.ite ?_ ?_)
      | (with_reducible refine LeO.bind ?_ (fun _ => ?_))
      | exact ih0 _ _ _ _ _ _ _ _ _ _ _ _ _ _ _ _ _ _
      | exact logfile_Check.mono _ _ _ _ _ _ _ _ _ _ _ _ _ _ _
      | exact logfile_appendNumbers.mono _ _ _
      | exact record_Format.mono _ _ _ _ _
      | exact LeO.none _
      | refine LeO.ite ?_ ?_
      | refine LeO.bind ?_ (fun _ => ?_)
set_option maxHeartbeats 8000000 in
set_option maxRecDepth 100000 in
theorem logfile_Encode.callsK (k : Nat) (a0_0 : Int) (a0_1 : Int) (a0_2 : Int) (a0_3 : Int) (A0_4 : Option Addr) (c0_4 : Nat) (l0_4 : List (S50)) (a0_5 : Bool) (a0_6 : Int) (a0_7 : Int) (a0_8 : Int) (a0_9 : Int) (a0_10 : ByteArray) (a0_11 : Int) (a0_12 : Int) (A0_13 : Option Addr) (c0_13 : Nat) (l0_13 : List Int) (r1 : List Int) (r2 : Int) (w : World) (hr0_4 : Kd.C k50 w A0_4 l0_4.length l0_4) (hc0_4 : l0_4.length ≤ c0_4) (hr0_13 : Kd.C (Kd.int .u8) w A0_13 l0_13.length l0_13) (hc0_13 : l0_13.length ≤ c0_13) (hG : GL w) (hhk0 : a0_0 = 2) (hhk1 : a0_1 = 0) (hhk2 : a0_2 = 0) (hhk3 : a0_3 = 0) (hhk4 : a0_5 = false) (hhk5 : a0_10.toList = ([] : List UInt8)) (hhk6 : a0_11 = 0) (hhk7 : a0_12 = 0) (h : logfile_Encode.f k a0_0 a0_1 a0_2 a0_3 l0_4 a0_5 a0_6 a0_7 a0_8 a0_9 a0_10 a0_11 a0_12 l0_13 = some (r1, r2)) :
    Calls Tryd.prog 91 #[.agg #[.int .i64 a0_0, .int .i64 a0_1, .int .i64 a0_2, .int .i64 a0_3, .slice A0_4 l0_4.length c0_4, .bool a0_5, .int .i64 a0_6, .int .i64 a0_7, .int .i64 a0_8, .int .i64 a0_9, .string a0_10, .int .i64 a0_11, .int .i64 a0_12, .slice A0_13 l0_13.length c0_13]] w fun e w' => ∃ v0_ : Value, e = .returned (.tuple #[v0_, .int .i64 r2]) ∧ Kd.R (Kd.int .u8) 5 w' w.heap.size (fun _ => True) v0_ r1 ∧ Below w.heap.size w w' := by
  have HK0 := Aside0.mk hhk0
  have HK1 := Aside0.mk hhk1
  have HK2 := Aside0.mk hhk2
  have HK3 := Aside0.mk hhk3
  have HK4 := Aside0.mk hhk4
  have HK5 := Aside0.mk hhk5
  have HK6 := Aside0.mk hhk6
  have HK7 := Aside0.mk hhk7
  clear hhk0 hhk1 hhk2 hhk3 hhk4 hhk5 hhk6 hhk7
  have hu141 := Tryd.underlying141
  have hu50 := Tryd.underlying50
  have HR0_4 := Aside0.mk hr0_4
  have HC0_4 := Aside0.mk hc0_4
  clear hr0_4 hc0_4
  have HR0_13 := Aside0.mk hr0_13
  have HC0_13 := Aside0.mk hc0_13
  clear hr0_13 hc0_13
  have HB := Aside0.mk (Below.refl w.heap.size w)
  have HGL := Aside0.mk hG
  clear hG
  have H : ((logfile_Check.f k a0_0 a0_1 a0_2 a0_3 l0_4 a0_5 a0_6 a0_7 a0_8 a0_9 a0_10 a0_11 a0_12 l0_13).bind fun t584 => (if t584 = 0 then ((logfile_appendNumbers.f k ([] : List Int) (([a0_0] : List Int))).bind fun t588 => (if a0_0 = 1 then ((logfile_appendNumbers.f k t588 (([a0_1, (l0_4.length : Int)] : List Int))).bind fun t594 => (logfile_Encode.l0 k t594 l0_4 (l0_4.length : Int) 0 a0_0 a0_1 a0_2 a0_3 l0_4 a0_5 a0_6 a0_7 a0_8 a0_9 a0_10 a0_11 a0_12 l0_13)) else (if a0_0 = 2 then ((logfile_appendNumbers.f k t588 (([a0_6, a0_7, a0_8, a0_9] : List Int))).bind fun t613 => (if a0_0 = 3 then (some (t613, 0)) else (if (t613.length : Int) > 16320 then (some (([] : List Int), 254)) else (some (t613, 0))))) else (if a0_0 = 3 then ((logfile_appendNumbers.f k t588 (([(a0_10.size : Int)] : List Int))).bind fun t619 => (if t619.length + a0_10.size < 140737488355328 then ((logfile_appendNumbers.f k (t619 ++ bytesOf a0_10) (([a0_11, a0_12] : List Int))).bind fun t628 => (if t628.length + l0_13.length < 140737488355328 then (some ((t628 ++ l0_13), 0)) else (none))) else (none))) else (if (t588.length : Int) > 16320 then (some (([] : List Int), 254)) else (some (t588, 0))))))) else (some (([] : List Int), t584)))) = some (r1, r2) := h
  clear h
  replace H := Option.bind_eq_some_iff.mp H
  obtain ⟨t584, A20, H⟩ := H
  replace H : (if t584 = 0 then ((logfile_appendNumbers.f k ([] : List Int) (([a0_0] : List Int))).bind fun t588 => (if a0_0 = 1 then ((logfile_appendNumbers.f k t588 (([a0_1, (l0_4.length : Int)] : List Int))).bind fun t594 => (logfile_Encode.l0 k t594 l0_4 (l0_4.length : Int) 0 a0_0 a0_1 a0_2 a0_3 l0_4 a0_5 a0_6 a0_7 a0_8 a0_9 a0_10 a0_11 a0_12 l0_13)) else (if a0_0 = 2 then ((logfile_appendNumbers.f k t588 (([a0_6, a0_7, a0_8, a0_9] : List Int))).bind fun t613 => (if a0_0 = 3 then (some (t613, 0)) else (if (t613.length : Int) > 16320 then (some (([] : List Int), 254)) else (some (t613, 0))))) else (if a0_0 = 3 then ((logfile_appendNumbers.f k t588 (([(a0_10.size : Int)] : List Int))).bind fun t619 => (if t619.length + a0_10.size < 140737488355328 then ((logfile_appendNumbers.f k (t619 ++ bytesOf a0_10) (([a0_11, a0_12] : List Int))).bind fun t628 => (if t628.length + l0_13.length < 140737488355328 then (some ((t628 ++ l0_13), 0)) else (none))) else (none))) else (if (t588.length : Int) > 16320 then (some (([] : List Int), 254)) else (some (t588, 0))))))) else (some (([] : List Int), t584))) = some (r1, r2) := H
  have A2 := Aside0.mk A20
  clear A20
  by_cases c3 : t584 = 0
  · rw [if_pos c3] at H
    have c3b0 : (t584 == 0) = true := beq_iff_eq.mpr c3
    have c3b1 : (t584 != 0) = false := bne_eq_false_iff_eq.mpr c3
    clear c3
    obtain ⟨y585, hy585⟩ : ∃ y_ : List Int, y_ = (([a0_0] : List Int)) := ⟨_, rfl⟩
    replace H : ((logfile_appendNumbers.f k ([] : List Int) y585).bind fun t588 => (if a0_0 = 1 then ((logfile_appendNumbers.f k t588 (([a0_1, (l0_4.length : Int)] : List Int))).bind fun t594 => (logfile_Encode.l0 k t594 l0_4 (l0_4.length : Int) 0 a0_0 a0_1 a0_2 a0_3 l0_4 a0_5 a0_6 a0_7 a0_8 a0_9 a0_10 a0_11 a0_12 l0_13)) else (if a0_0 = 2 then ((logfile_appendNumbers.f k t588 (([a0_6, a0_7, a0_8, a0_9] : List Int))).bind fun t613 => (if a0_0 = 3 then (some (t613, 0)) else (if (t613.length : Int) > 16320 then (some (([] : List Int), 254)) else (some (t613, 0))))) else (if a0_0 = 3 then ((logfile_appendNumbers.f k t588 (([(a0_10.size : Int)] : List Int))).bind fun t619 => (if t619.length + a0_10.size < 140737488355328 then ((logfile_appendNumbers.f k (t619 ++ bytesOf a0_10) (([a0_11, a0_12] : List Int))).bind fun t628 => (if t628.length + l0_13.length < 140737488355328 then (some ((t628 ++ l0_13), 0)) else (none))) else (none))) else (if (t588.length : Int) > 16320 then (some (([] : List Int), 254)) else (some (t588, 0))))))) = some (r1, r2) := by first | (rw [hy585]; with_reducible exact H) | (have H2_ := (Option.bind_some _ _).symm.trans H; rw [hy585]; with_reducible exact H2_) | (have H2_ := (Option.bind_some _ _).symm.trans H; with_reducible exact H2_) | with_reducible exact H | (rw [hy585]; exact H) | exact H
    have Ny585 := Aside0.mk hy585
    clear hy585
    replace H := Option.bind_eq_some_iff.mp H
    obtain ⟨t588, A40, H⟩ := H
    replace H : (if a0_0 = 1 then ((logfile_appendNumbers.f k t588 (([a0_1, (l0_4.length : Int)] : List Int))).bind fun t594 => (logfile_Encode.l0 k t594 l0_4 (l0_4.length : Int) 0 a0_0 a0_1 a0_2 a0_3 l0_4 a0_5 a0_6 a0_7 a0_8 a0_9 a0_10 a0_11 a0_12 l0_13)) else (if a0_0 = 2 then ((logfile_appendNumbers.f k t588 (([a0_6, a0_7, a0_8, a0_9] : List Int))).bind fun t613 => (if a0_0 = 3 then (some (t613, 0)) else (if (t613.length : Int) > 16320 then (some (([] : List Int), 254)) else (some (t613, 0))))) else (if a0_0 = 3 then ((logfile_appendNumbers.f k t588 (([(a0_10.size : Int)] : List Int))).bind fun t619 => (if t619.length + a0_10.size < 140737488355328 then ((logfile_appendNumbers.f k (t619 ++ bytesOf a0_10) (([a0_11, a0_12] : List Int))).bind fun t628 => (if t628.length + l0_13.length < 140737488355328 then (some ((t628 ++ l0_13), 0)) else (none))) else (none))) else (if (t588.length : Int) > 16320 then (some (([] : List Int), 254)) else (some (t588, 0)))))) = some (r1, r2) := H
    have A4 := Aside0.mk A40
    clear A40
    by_cases c5 : a0_0 = 1
    · exact absurd c5 (by rw [HK0.out]; decide)
    · rw [if_neg c5] at H
      have c5b0 : (a0_0 == 1) = false := beq_eq_false_iff_ne.mpr c5
      have c5b1 : (a0_0 != 1) = true := bne_iff_ne.mpr c5
      by_cases c50 : a0_0 = 2
      · rw [if_pos c50] at H
        have c50b0 : (a0_0 == 2) = true := beq_iff_eq.mpr c50
        have c50b1 : (a0_0 != 2) = false := bne_eq_false_iff_eq.mpr c50
        clear c50
        obtain ⟨y610, hy610⟩ : ∃ y_ : List Int, y_ = (([a0_6, a0_7, a0_8, a0_9] : List Int)) := ⟨_, rfl⟩
        replace H : ((logfile_appendNumbers.f k t588 y610).bind fun t613 => (if a0_0 = 3 then (some (t613, 0)) else (if (t613.length : Int) > 16320 then (some (([] : List Int), 254)) else (some (t613, 0))))) = some (r1, r2) := by first | (rw [hy610]; with_reducible exact H) | (have H2_ := (Option.bind_some _ _).symm.trans H; rw [hy610]; with_reducible exact H2_) | (have H2_ := (Option.bind_some _ _).symm.trans H; with_reducible exact H2_) | with_reducible exact H | (rw [hy610]; exact H) | exact H
        have Ny610 := Aside0.mk hy610
        clear hy610
        replace H := Option.bind_eq_some_iff.mp H
        obtain ⟨t613, A510, H⟩ := H
        replace H : (if a0_0 = 3 then (some (t613, 0)) else (if (t613.length : Int) > 16320 then (some (([] : List Int), 254)) else (some (t613, 0)))) = some (r1, r2) := H
        have A51 := Aside0.mk A510
        clear A510
        by_cases c52 : a0_0 = 3
        · exact absurd c52 (by rw [HK0.out]; decide)
        · rw [if_neg c52] at H
          have c52b0 : (a0_0 == 3) = false := beq_eq_false_iff_ne.mpr c52
          have c52b1 : (a0_0 != 3) = true := bne_iff_ne.mpr c52
          by_cases c68 : (t613.length : Int) > 16320
          · rw [if_pos c68] at H
            have c68b0 : decide (16320 < (t613.length : Int)) = true := decide_eq_true c68
            have c68b1 : decide (16320 < t613.length) = true := decide_eq_true (by omega)
            clear c68
            simp only [Option.some.injEq, Prod.mk.injEq] at H
            obtain ⟨rfl, rfl⟩ := H
            go_enter Tryd.func91, Tryd.ntmps91
            go_wp2_with (first | ((with_reducible refine gate_dst (N := 1) rfl ?_); (try (refine gate_guard (by rfl) ?_; dsimp only)); refine box_event ?hg (N := 1) ?hd (cs := #[.int .i64 a0_0, .int .i64 a0_1, .int .i64 a0_2, .int .i64 a0_3, .slice A0_4 l0_4.length c0_4, .bool a0_5, .int .i64 a0_6, .int .i64 a0_7, .int .i64 a0_8, .int .i64 a0_9, .string a0_10, .int .i64 a0_11, .int .i64 a0_12, .slice A0_13 l0_13.length c0_13]) (t := 141) ?hr ?_; (case hd => rfl); (case hg => rfl); (case hr => first | (go_simp; done) | (go_simp; rfl)); intro gb583 hg w69 hbox hb; have n0_ := Aside0.mk (below_step (by repeat (first | (with_reducible first | exact HB.out | apply below_alloc | apply pw_below_drewN | apply below_drew1) | exact HB.out)) hb); have n1_ := Aside0.mk (hbox); have n2_ := Aside0.mk ((by rw [hg]; exact (below_size (by repeat (first | (with_reducible first | exact HB.out | apply below_alloc | apply pw_below_drewN | apply below_drew1) | exact HB.out))) : w.heap.size ≤ gb583)); have n3_ := Aside0.mk ((by rw [hg]; exact (below_size (by repeat (first | (with_reducible first | exact HB.out | apply below_alloc | apply pw_below_drewN | apply below_drew1) | exact HB.out))) : w.heap.size ≤ gb583)); clear HB; have HB := n0_; have BK583 := n1_; have GW583 := n2_; have GE583 := n3_; clear n0_ n1_ n2_ n3_; clear hb hbox hg; have hcz70_0 : w69.cell? ⟨gb583, 0, none⟩ = some (.int .i64 a0_0) := (blk_cell BK583.out 0).trans rfl; have hcz70_1 : w69.cell? ⟨gb583, 1, none⟩ = some (.int .i64 a0_1) := (blk_cell BK583.out 1).trans rfl; have hcz70_2 : w69.cell? ⟨gb583, 2, none⟩ = some (.int .i64 a0_2) := (blk_cell BK583.out 2).trans rfl; have hcz70_3 : w69.cell? ⟨gb583, 3, none⟩ = some (.int .i64 a0_3) := (blk_cell BK583.out 3).trans rfl; have hcz70_4 : w69.cell? ⟨gb583, 4, none⟩ = some (.slice A0_4 l0_4.length c0_4) := (blk_cell BK583.out 4).trans rfl; have hcz70_5 : w69.cell? ⟨gb583, 5, none⟩ = some (.bool a0_5) := (blk_cell BK583.out 5).trans rfl; have hcz70_6 : w69.cell? ⟨gb583, 6, none⟩ = some (.int .i64 a0_6) := (blk_cell BK583.out 6).trans rfl; have hcz70_7 : w69.cell? ⟨gb583, 7, none⟩ = some (.int .i64 a0_7) := (blk_cell BK583.out 7).trans rfl; have hcz70_8 : w69.cell? ⟨gb583, 8, none⟩ = some (.int .i64 a0_8) := (blk_cell BK583.out 8).trans rfl; have hcz70_9 : w69.cell? ⟨gb583, 9, none⟩ = some (.int .i64 a0_9) := (blk_cell BK583.out 9).trans rfl; have hcz70_10 : w69.cell? ⟨gb583, 10, none⟩ = some (.string a0_10) := (blk_cell BK583.out 10).trans rfl; have hcz70_11 : w69.cell? ⟨gb583, 11, none⟩ = some (.int .i64 a0_11) := (blk_cell BK583.out 11).trans rfl; have hcz70_12 : w69.cell? ⟨gb583, 12, none⟩ = some (.int .i64 a0_12) := (blk_cell BK583.out 12).trans rfl; have hcz70_13 : w69.cell? ⟨gb583, 13, none⟩ = some (.slice A0_13 l0_13.length c0_13) := (blk_cell BK583.out 13).trans rfl; have hfz70_0 := blk_frozen BK583.out 0; have hfz70_1 := blk_frozen BK583.out 1; have hfz70_2 := blk_frozen BK583.out 2; have hfz70_3 := blk_frozen BK583.out 3; have hfz70_4 := blk_frozen BK583.out 4; have hfz70_5 := blk_frozen BK583.out 5; have hfz70_6 := blk_frozen BK583.out 6; have hfz70_7 := blk_frozen BK583.out 7; have hfz70_8 := blk_frozen BK583.out 8; have hfz70_9 := blk_frozen BK583.out 9; have hfz70_10 := blk_frozen BK583.out 10; have hfz70_11 := blk_frozen BK583.out 11; have hfz70_12 := blk_frozen BK583.out 12; have hfz70_13 := blk_frozen BK583.out 13) | ((with_reducible refine gate_callee (f := 126) rfl ?_); refine goesL_ (some 11) rfl rfl Tryd.func126 (by kernel_rfl) rfl #[.agg #[.int .i64 a0_0, .int .i64 a0_1, .int .i64 a0_2, .int .i64 a0_3, .slice A0_4 l0_4.length c0_4, .bool a0_5, .int .i64 a0_6, .int .i64 a0_7, .int .i64 a0_8, .int .i64 a0_9, .string a0_10, .int .i64 a0_11, .int .i64 a0_12, .slice A0_13 l0_13.length c0_13]] rfl (by (try simp only [List.map_toArray, List.map_cons, List.map_nil]); first | done | rfl | (simp only [List.length_drop, List.length_take]; rfl)) ?_; (with_reducible refine (logfile_Check.callsK k a0_0 a0_1 a0_2 a0_3 _ _ l0_4 a0_5 a0_6 a0_7 a0_8 a0_9 a0_10 a0_11 a0_12 _ _ l0_13 t584 _ ?side1 ?side2 ?side3 ?side4 ?side5 HK0.out HK1.out HK2.out HK3.out HK4.out HK5.out HK6.out HK7.out A2.out).mono ?_); (case side1 => repeat (first | exact (Kd.C_below HR0_4.out HB.out) | (with_reducible refine Kd.C_alloc ?_ _) | (with_reducible refine Kd.C_drewN ?_ _) | (with_reducible refine Kd.C_drew ?_))); (case side2 => exact HC0_4.out); (case side3 => repeat (first | exact (Kd.C_below HR0_13.out HB.out) | (with_reducible refine Kd.C_alloc ?_ _) | (with_reducible refine Kd.C_drewN ?_ _) | (with_reducible refine Kd.C_drew ?_))); (case side4 => exact HC0_13.out); (case side5 => refine GL.below HGL.out ?_; repeat (first | (with_reducible first | exact HB.out | apply below_alloc | apply pw_below_drewN | apply below_drew1 | refine below_set ?_ GE583.out) | exact HB.out)); rintro e w71 ⟨rfl, hb⟩; refine ⟨_, rfl, ?_⟩; have n0_ := Aside0.mk (blk_below (g := gb583) (o := .cells #[.int .i64 a0_0, .int .i64 a0_1, .int .i64 a0_2, .int .i64 a0_3, .slice A0_4 l0_4.length c0_4, .bool a0_5, .int .i64 a0_6, .int .i64 a0_7, .int .i64 a0_8, .int .i64 a0_9, .string a0_10, .int .i64 a0_11, .int .i64 a0_12, .slice A0_13 l0_13.length c0_13] 141 (0, 0)) (by (with_reducible repeat (first | refine blk_drewN ?_ _ | refine blk_drew ?_ | refine blk_alloc ?_ _)); exact BK583.out) hb); have n1_ := Aside0.mk (below_step (by repeat (first | (with_reducible first | exact HB.out | apply below_alloc | apply pw_below_drewN | apply below_drew1 | refine below_set ?_ GE583.out) | exact HB.out)) hb); clear BK583; clear HB; have BK583 := n0_; have HB := n1_; clear n0_ n1_; (try clear hb); (try clear hb2); (try clear hk); (try clear hi); have hcz72_0 : w71.cell? ⟨gb583, 0, none⟩ = some (.int .i64 a0_0) := (blk_cell BK583.out 0).trans rfl; have hcz72_1 : w71.cell? ⟨gb583, 1, none⟩ = some (.int .i64 a0_1) := (blk_cell BK583.out 1).trans rfl; have hcz72_2 : w71.cell? ⟨gb583, 2, none⟩ = some (.int .i64 a0_2) := (blk_cell BK583.out 2).trans rfl; have hcz72_3 : w71.cell? ⟨gb583, 3, none⟩ = some (.int .i64 a0_3) := (blk_cell BK583.out 3).trans rfl; have hcz72_4 : w71.cell? ⟨gb583, 4, none⟩ = some (.slice A0_4 l0_4.length c0_4) := (blk_cell BK583.out 4).trans rfl; have hcz72_5 : w71.cell? ⟨gb583, 5, none⟩ = some (.bool a0_5) := (blk_cell BK583.out 5).trans rfl; have hcz72_6 : w71.cell? ⟨gb583, 6, none⟩ = some (.int .i64 a0_6) := (blk_cell BK583.out 6).trans rfl; have hcz72_7 : w71.cell? ⟨gb583, 7, none⟩ = some (.int .i64 a0_7) := (blk_cell BK583.out 7).trans rfl; have hcz72_8 : w71.cell? ⟨gb583, 8, none⟩ = some (.int .i64 a0_8) := (blk_cell BK583.out 8).trans rfl; have hcz72_9 : w71.cell? ⟨gb583, 9, none⟩ = some (.int .i64 a0_9) := (blk_cell BK583.out 9).trans rfl; have hcz72_10 : w71.cell? ⟨gb583, 10, none⟩ = some (.string a0_10) := (blk_cell BK583.out 10).trans rfl; have hcz72_11 : w71.cell? ⟨gb583, 11, none⟩ = some (.int .i64 a0_11) := (blk_cell BK583.out 11).trans rfl; have hcz72_12 : w71.cell? ⟨gb583, 12, none⟩ = some (.int .i64 a0_12) := (blk_cell BK583.out 12).trans rfl; have hcz72_13 : w71.cell? ⟨gb583, 13, none⟩ = some (.slice A0_13 l0_13.length c0_13) := (blk_cell BK583.out 13).trans rfl; have hfz72_0 := blk_frozen BK583.out 0; have hfz72_1 := blk_frozen BK583.out 1; have hfz72_2 := blk_frozen BK583.out 2; have hfz72_3 := blk_frozen BK583.out 3; have hfz72_4 := blk_frozen BK583.out 4; have hfz72_5 := blk_frozen BK583.out 5; have hfz72_6 := blk_frozen BK583.out 6; have hfz72_7 := blk_frozen BK583.out 7; have hfz72_8 := blk_frozen BK583.out 8; have hfz72_9 := blk_frozen BK583.out 9; have hfz72_10 := blk_frozen BK583.out 10; have hfz72_11 := blk_frozen BK583.out 11; have hfz72_12 := blk_frozen BK583.out 12; have hfz72_13 := blk_frozen BK583.out 13) | ((with_reducible refine gate_dst (N := 17) rfl ?_); (try (refine gate_guard (by rfl) ?_; dsimp only)); refine Kd.R_lit (Kd.int .i64) _ 3 ?hg (N := 17) ?hd (xs := ([a0_0] : List Int)) (inner := [.int .i64 a0_0]) (ok := fun _ => True) (okp := fun _ => True) ?hr ?hp (fun _ hk => hk) trivial (Below.refl _ _) (Nat.le_refl _) (by simp) ?_; (case hd => rfl); (case hg => rfl); (case hr => first | (go_simp; done) | (go_simp; rfl)); (case hp => exact (Reps.one (show Kd.M (Kd.int .i64) _ _ _ a0_0 [.int .i64 a0_0] from rfl) (Reps.none _ _))); intro v586 w73 ho74 hb hg_ hnew_; clear hg_ hnew_; (first | rw [← Ny585.out] at ho74 | (simp only [Int.reduceToNat] at ho74; rw [← Ny585.out] at ho74)); have n0_ := Aside0.mk (Kd.R_lower ho74 (below_size (by repeat (first | (with_reducible first | exact HB.out | apply below_alloc | apply pw_below_drewN | apply below_drew1 | refine below_set ?_ GE583.out) | exact HB.out)))); have n1_ := Aside0.mk (blk_below (g := gb583) (o := .cells #[.int .i64 a0_0, .int .i64 a0_1, .int .i64 a0_2, .int .i64 a0_3, .slice A0_4 l0_4.length c0_4, .bool a0_5, .int .i64 a0_6, .int .i64 a0_7, .int .i64 a0_8, .int .i64 a0_9, .string a0_10, .int .i64 a0_11, .int .i64 a0_12, .slice A0_13 l0_13.length c0_13] 141 (0, 0)) (by (with_reducible repeat (first | refine blk_drewN ?_ _ | refine blk_drew ?_ | refine blk_alloc ?_ _)); exact BK583.out) hb); have n2_ := Aside0.mk (below_step (by repeat (first | (with_reducible first | exact HB.out | apply below_alloc | apply pw_below_drewN | apply below_drew1 | refine below_set ?_ GE583.out) | exact HB.out)) hb); clear BK583; clear HB; have HO587 := n0_; have BK583 := n1_; have HB := n2_; clear n0_ n1_ n2_; clear hb ho74; obtain ⟨Ao75, co75, eo75⟩ := Kd.R_slice HO587.out; subst eo75) | ((with_reducible refine gate_callee (f := 89) rfl ?_); refine goesL_ (some 18) rfl rfl Tryd.func89 (by kernel_rfl) rfl #[.slice none 0 0, .slice Ao75 y585.length co75] rfl (by (try simp only [List.map_toArray, List.map_cons, List.map_nil]); first | done | rfl | (simp only [List.length_drop, List.length_take]; rfl)) ?_; (refine (logfile_appendNumbers.calls k (fun k_ => some k_ = (.slice none 0 0 : Value).ownBlock) (.slice none 0 0) ([] : List Int) _ _ y585 t588 w _ ?side1 ?side2 ?side3 ?side4 A4.out).mono ?_); (case side1 => repeat (first | (with_reducible first | exact HB.out | apply below_alloc | apply pw_below_drewN | apply below_drew1 | refine below_set ?_ GE583.out) | exact HB.out)); (case side2 => exact Kd.R_nil _ _ _ _ _); (case side3 => exact Kd.C_kept_own (HO587.out) (fun k_ hk_ hs_ => (fun e_ => by simp [Value.ownBlock] at e_) hs_)); (case side4 => exact (Kd.R_reads' HO587.out).2.1); rintro e w76 ⟨v589, rfl, ho0, hb, hkp⟩; refine ⟨_, rfl, ?_⟩; have n0_ := Aside0.mk (blk_kept (by (with_reducible repeat (first | refine blk_drewN ?_ _ | refine blk_drew ?_ | refine blk_alloc ?_ _)); exact BK583.out) hkp (fun hs_ => (fun e_ => by simp [Value.ownBlock] at e_) hs_)); have n1_ := Aside0.mk (Kd.R_mono (ok' := fun k_ => True) (Kd.R_keptB (HO587.out) hkp (fun k_ hk_ hs_ => (fun e_ => by simp [Value.ownBlock] at e_) hs_)) (fun k_ hk_ => trivial)); have n2_ := Aside0.mk (Kd.R_mono (ok' := fun k_ => True) ho0 (fun k_ hk_ => trivial)); have n3_ := Aside0.mk (hb); clear BK583; clear HO587; clear HB; have BK583 := n0_; have HO587 := n1_; have HO590 := n2_; have HB := n3_; clear n0_ n1_ n2_ n3_; (try clear hb); (try clear hkp); (try clear ho0); have hcz77_0 : w76.cell? ⟨gb583, 0, none⟩ = some (.int .i64 a0_0) := (blk_cell BK583.out 0).trans rfl; have hcz77_1 : w76.cell? ⟨gb583, 1, none⟩ = some (.int .i64 a0_1) := (blk_cell BK583.out 1).trans rfl; have hcz77_2 : w76.cell? ⟨gb583, 2, none⟩ = some (.int .i64 a0_2) := (blk_cell BK583.out 2).trans rfl; have hcz77_3 : w76.cell? ⟨gb583, 3, none⟩ = some (.int .i64 a0_3) := (blk_cell BK583.out 3).trans rfl; have hcz77_4 : w76.cell? ⟨gb583, 4, none⟩ = some (.slice A0_4 l0_4.length c0_4) := (blk_cell BK583.out 4).trans rfl; have hcz77_5 : w76.cell? ⟨gb583, 5, none⟩ = some (.bool a0_5) := (blk_cell BK583.out 5).trans rfl; have hcz77_6 : w76.cell? ⟨gb583, 6, none⟩ = some (.int .i64 a0_6) := (blk_cell BK583.out 6).trans rfl; have hcz77_7 : w76.cell? ⟨gb583, 7, none⟩ = some (.int .i64 a0_7) := (blk_cell BK583.out 7).trans rfl; have hcz77_8 : w76.cell? ⟨gb583, 8, none⟩ = some (.int .i64 a0_8) := (blk_cell BK583.out 8).trans rfl; have hcz77_9 : w76.cell? ⟨gb583, 9, none⟩ = some (.int .i64 a0_9) := (blk_cell BK583.out 9).trans rfl; have hcz77_10 : w76.cell? ⟨gb583, 10, none⟩ = some (.string a0_10) := (blk_cell BK583.out 10).trans rfl; have hcz77_11 : w76.cell? ⟨gb583, 11, none⟩ = some (.int .i64 a0_11) := (blk_cell BK583.out 11).trans rfl; have hcz77_12 : w76.cell? ⟨gb583, 12, none⟩ = some (.int .i64 a0_12) := (blk_cell BK583.out 12).trans rfl; have hcz77_13 : w76.cell? ⟨gb583, 13, none⟩ = some (.slice A0_13 l0_13.length c0_13) := (blk_cell BK583.out 13).trans rfl; have hfz77_0 := blk_frozen BK583.out 0; have hfz77_1 := blk_frozen BK583.out 1; have hfz77_2 := blk_frozen BK583.out 2; have hfz77_3 := blk_frozen BK583.out 3; have hfz77_4 := blk_frozen BK583.out 4; have hfz77_5 := blk_frozen BK583.out 5; have hfz77_6 := blk_frozen BK583.out 6; have hfz77_7 := blk_frozen BK583.out 7; have hfz77_8 := blk_frozen BK583.out 8; have hfz77_9 := blk_frozen BK583.out 9; have hfz77_10 := blk_frozen BK583.out 10; have hfz77_11 := blk_frozen BK583.out 11; have hfz77_12 := blk_frozen BK583.out 12; have hfz77_13 := blk_frozen BK583.out 13) | ((with_reducible refine gate_dst (N := 71) rfl ?_); (try (refine gate_guard (by rfl) ?_; dsimp only)); refine Kd.R_lit (Kd.int .i64) _ 3 ?hg (N := 71) ?hd (xs := ([a0_6, a0_7, a0_8, a0_9] : List Int)) (inner := [.int .i64 a0_6, .int .i64 a0_7, .int .i64 a0_8, .int .i64 a0_9]) (ok := fun _ => True) (okp := fun _ => True) ?hr ?hp (fun _ hk => hk) trivial (Below.refl _ _) (Nat.le_refl _) (by simp) ?_; (case hd => rfl); (case hg => rfl); (case hr => first | (go_simp; done) | (go_simp; rfl)); (case hp => exact (Reps.one (show Kd.M (Kd.int .i64) _ _ _ a0_6 [.int .i64 a0_6] from rfl) (Reps.one (show Kd.M (Kd.int .i64) _ _ _ a0_7 [.int .i64 a0_7] from rfl) (Reps.one (show Kd.M (Kd.int .i64) _ _ _ a0_8 [.int .i64 a0_8] from rfl) (Reps.one (show Kd.M (Kd.int .i64) _ _ _ a0_9 [.int .i64 a0_9] from rfl) (Reps.none _ _)))))); intro v611 w78 ho79 hb hg_ hnew_; clear hg_ hnew_; (first | rw [← Ny610.out] at ho79 | (simp only [Int.reduceToNat] at ho79; rw [← Ny610.out] at ho79)); have n0_ := Aside0.mk (Kd.R_elder' (by (with_reducible repeat (first | apply Kd.R_alloc | apply Kd.R_drewN | apply Kd.R_drew)); exact HO587.out) (Kd.R_base ho79) hb); have n1_ := Aside0.mk (Kd.R_below (by (with_reducible repeat (first | apply Kd.R_alloc | apply Kd.R_drewN | apply Kd.R_drew)); exact HO590.out) hb); have n2_ := Aside0.mk (Kd.R_lower (Kd.R_new' ho79 (Kd.R_lt (by (with_reducible repeat (first | apply Kd.R_alloc | apply Kd.R_drewN | apply Kd.R_drew)); exact HO587.out))) (below_size (by repeat (first | (with_reducible first | exact HB.out | apply below_alloc | apply pw_below_drewN | apply below_drew1 | refine below_set ?_ GE583.out) | exact HB.out)))); have n3_ := Aside0.mk (blk_below (g := gb583) (o := .cells #[.int .i64 a0_0, .int .i64 a0_1, .int .i64 a0_2, .int .i64 a0_3, .slice A0_4 l0_4.length c0_4, .bool a0_5, .int .i64 a0_6, .int .i64 a0_7, .int .i64 a0_8, .int .i64 a0_9, .string a0_10, .int .i64 a0_11, .int .i64 a0_12, .slice A0_13 l0_13.length c0_13] 141 (0, 0)) (by (with_reducible repeat (first | refine blk_drewN ?_ _ | refine blk_drew ?_ | refine blk_alloc ?_ _)); exact BK583.out) hb); have n4_ := Aside0.mk (below_step (by repeat (first | (with_reducible first | exact HB.out | apply below_alloc | apply pw_below_drewN | apply below_drew1 | refine below_set ?_ GE583.out) | exact HB.out)) hb); clear HO587; clear HO590; clear BK583; clear HB; have HO587 := n0_; have HO590 := n1_; have HO612 := n2_; have BK583 := n3_; have HB := n4_; clear n0_ n1_ n2_ n3_ n4_; clear hb ho79; obtain ⟨Ao80, co80, eo80⟩ := Kd.R_slice HO590.out; subst eo80; obtain ⟨Ao81, co81, eo81⟩ := Kd.R_slice HO612.out; subst eo81) | ((with_reducible refine gate_callee (f := 89) rfl ?_); refine goesL_ (some 72) rfl rfl Tryd.func89 (by kernel_rfl) rfl #[.slice Ao80 t588.length co80, .slice Ao81 y610.length co81] rfl (by (try simp only [List.map_toArray, List.map_cons, List.map_nil]); first | done | rfl | (simp only [List.length_drop, List.length_take]; rfl)) ?_; (with_reducible refine (logfile_appendNumbers.calls k (fun k_ => some k_ = (.slice Ao80 t588.length co80 : Value).ownBlock) (.slice Ao80 t588.length co80) t588 _ _ y610 t613 w _ ?side1 ?side2 ?side3 ?side4 A51.out).mono ?_); (case side1 => repeat (first | (with_reducible first | exact HB.out | apply below_alloc | apply pw_below_drewN | apply below_drew1 | refine below_set ?_ GE583.out) | exact HB.out)); (case side2 => exact Kd.R_tight rfl HO590.out); (case side3 => exact Kd.C_kept_own ((Kd.R_apart' HO612.out (Kd.R_typed HO590.out) (by decide))) (fun k_ hk_ hs_ => (hk_.2) hs_)); (case side4 => exact (Kd.R_reads' HO612.out).2.1); rintro e w82 ⟨v614, rfl, ho0, hb, hkp⟩; refine ⟨_, rfl, ?_⟩; have n0_ := Aside0.mk (blk_kept (by (with_reducible repeat (first | refine blk_drewN ?_ _ | refine blk_drew ?_ | refine blk_alloc ?_ _)); exact BK583.out) hkp (fun hs_ => (fun e_ => (Kd.R_ne HO590.out BK583.out (by decide)) e_) hs_)); have n1_ := Aside0.mk (Kd.R_mono (ok' := fun k_ => some k_ ≠ (.slice Ao81 y610.length co81 : Value).ownBlock) (Kd.R_keptB ((Kd.R_apart' HO587.out (Kd.R_typed HO590.out) (by decide))) hkp (fun k_ hk_ hs_ => (hk_.2) hs_)) (fun k_ hk_ => hk_.1.1.2)); have n2_ := Aside0.mk (Kd.R_mono (ok' := fun k_ => some k_ ≠ (.slice Ao75 y585.length co75 : Value).ownBlock) (Kd.R_keptB ((Kd.R_apart' HO612.out (Kd.R_typed HO590.out) (by decide))) hkp (fun k_ hk_ hs_ => (hk_.2) hs_)) (fun k_ hk_ => hk_.1.1.2)); have n3_ := Aside0.mk (Kd.R_mono (ok' := fun k_ => True) ho0 (fun k_ hk_ => trivial)); have n4_ := Aside0.mk (hb); clear BK583; clear HO587; clear HO612; clear HB; clear HO590; have BK583 := n0_; have HO587 := n1_; have HO612 := n2_; have HO615 := n3_; have HB := n4_; clear n0_ n1_ n2_ n3_ n4_; (try clear hb); (try clear hkp); (try clear ho0); have hcz83_0 : w82.cell? ⟨gb583, 0, none⟩ = some (.int .i64 a0_0) := (blk_cell BK583.out 0).trans rfl; have hcz83_1 : w82.cell? ⟨gb583, 1, none⟩ = some (.int .i64 a0_1) := (blk_cell BK583.out 1).trans rfl; have hcz83_2 : w82.cell? ⟨gb583, 2, none⟩ = some (.int .i64 a0_2) := (blk_cell BK583.out 2).trans rfl; have hcz83_3 : w82.cell? ⟨gb583, 3, none⟩ = some (.int .i64 a0_3) := (blk_cell BK583.out 3).trans rfl; have hcz83_4 : w82.cell? ⟨gb583, 4, none⟩ = some (.slice A0_4 l0_4.length c0_4) := (blk_cell BK583.out 4).trans rfl; have hcz83_5 : w82.cell? ⟨gb583, 5, none⟩ = some (.bool a0_5) := (blk_cell BK583.out 5).trans rfl; have hcz83_6 : w82.cell? ⟨gb583, 6, none⟩ = some (.int .i64 a0_6) := (blk_cell BK583.out 6).trans rfl; have hcz83_7 : w82.cell? ⟨gb583, 7, none⟩ = some (.int .i64 a0_7) := (blk_cell BK583.out 7).trans rfl; have hcz83_8 : w82.cell? ⟨gb583, 8, none⟩ = some (.int .i64 a0_8) := (blk_cell BK583.out 8).trans rfl; have hcz83_9 : w82.cell? ⟨gb583, 9, none⟩ = some (.int .i64 a0_9) := (blk_cell BK583.out 9).trans rfl; have hcz83_10 : w82.cell? ⟨gb583, 10, none⟩ = some (.string a0_10) := (blk_cell BK583.out 10).trans rfl; have hcz83_11 : w82.cell? ⟨gb583, 11, none⟩ = some (.int .i64 a0_11) := (blk_cell BK583.out 11).trans rfl; have hcz83_12 : w82.cell? ⟨gb583, 12, none⟩ = some (.int .i64 a0_12) := (blk_cell BK583.out 12).trans rfl; have hcz83_13 : w82.cell? ⟨gb583, 13, none⟩ = some (.slice A0_13 l0_13.length c0_13) := (blk_cell BK583.out 13).trans rfl; have hfz83_0 := blk_frozen BK583.out 0; have hfz83_1 := blk_frozen BK583.out 1; have hfz83_2 := blk_frozen BK583.out 2; have hfz83_3 := blk_frozen BK583.out 3; have hfz83_4 := blk_frozen BK583.out 4; have hfz83_5 := blk_frozen BK583.out 5; have hfz83_6 := blk_frozen BK583.out 6; have hfz83_7 := blk_frozen BK583.out 7; have hfz83_8 := blk_frozen BK583.out 8; have hfz83_9 := blk_frozen BK583.out 9; have hfz83_10 := blk_frozen BK583.out 10; have hfz83_11 := blk_frozen BK583.out 11; have hfz83_12 := blk_frozen BK583.out 12; have hfz83_13 := blk_frozen BK583.out 13; obtain ⟨Ao84, co84, eo84⟩ := Kd.R_slice HO615.out; subst eo84))
            go_ret2
            exact ⟨_, by first | rfl | (simp [errW_none, errW_some] <;> rfl) | (simp [*, errW_none, errW_some] <;> rfl) | (simp only [isEmpty_ne_, isEmpty_eq_]; rfl) | (simp [*, isEmpty_ne_, isEmpty_eq_]; done), by first | exact Kd.R_nil _ _ _ _ _ | exact Kd.N_nil _ _ _ _ _ | exact Kd.V_nil _ _ _ _ _ | exact Kd.Q_nil _ _ _ _ _ | exact Kd.S_nil _ _ _ _ _, by repeat (first | (with_reducible first | exact HB.out | apply below_alloc | apply pw_below_drewN | apply below_drew1 | refine below_set ?_ GE583.out) | exact HB.out)⟩
          · rw [if_neg c68] at H
            have c68b0 : decide (16320 < (t613.length : Int)) = false := decide_eq_false c68
            have c68b1 : decide (16320 < t613.length) = false := decide_eq_false (by omega)
            clear c68
            simp only [Option.some.injEq, Prod.mk.injEq] at H
            obtain ⟨rfl, rfl⟩ := H
            go_enter Tryd.func91, Tryd.ntmps91
            go_wp2_with (first | ((with_reducible refine gate_dst (N := 1) rfl ?_); (try (refine gate_guard (by rfl) ?_; dsimp only)); refine box_event ?hg (N := 1) ?hd (cs := #[.int .i64 a0_0, .int .i64 a0_1, .int .i64 a0_2, .int .i64 a0_3, .slice A0_4 l0_4.length c0_4, .bool a0_5, .int .i64 a0_6, .int .i64 a0_7, .int .i64 a0_8, .int .i64 a0_9, .string a0_10, .int .i64 a0_11, .int .i64 a0_12, .slice A0_13 l0_13.length c0_13]) (t := 141) ?hr ?_; (case hd => rfl); (case hg => rfl); (case hr => first | (go_simp; done) | (go_simp; rfl)); intro gb583 hg w85 hbox hb; have n0_ := Aside0.mk (below_step (by repeat (first | (with_reducible first | exact HB.out | apply below_alloc | apply pw_below_drewN | apply below_drew1) | exact HB.out)) hb); have n1_ := Aside0.mk (hbox); have n2_ := Aside0.mk ((by rw [hg]; exact (below_size (by repeat (first | (with_reducible first | exact HB.out | apply below_alloc | apply pw_below_drewN | apply below_drew1) | exact HB.out))) : w.heap.size ≤ gb583)); have n3_ := Aside0.mk ((by rw [hg]; exact (below_size (by repeat (first | (with_reducible first | exact HB.out | apply below_alloc | apply pw_below_drewN | apply below_drew1) | exact HB.out))) : w.heap.size ≤ gb583)); clear HB; have HB := n0_; have BK583 := n1_; have GW583 := n2_; have GE583 := n3_; clear n0_ n1_ n2_ n3_; clear hb hbox hg; have hcz86_0 : w85.cell? ⟨gb583, 0, none⟩ = some (.int .i64 a0_0) := (blk_cell BK583.out 0).trans rfl; have hcz86_1 : w85.cell? ⟨gb583, 1, none⟩ = some (.int .i64 a0_1) := (blk_cell BK583.out 1).trans rfl; have hcz86_2 : w85.cell? ⟨gb583, 2, none⟩ = some (.int .i64 a0_2) := (blk_cell BK583.out 2).trans rfl; have hcz86_3 : w85.cell? ⟨gb583, 3, none⟩ = some (.int .i64 a0_3) := (blk_cell BK583.out 3).trans rfl; have hcz86_4 : w85.cell? ⟨gb583, 4, none⟩ = some (.slice A0_4 l0_4.length c0_4) := (blk_cell BK583.out 4).trans rfl; have hcz86_5 : w85.cell? ⟨gb583, 5, none⟩ = some (.bool a0_5) := (blk_cell BK583.out 5).trans rfl; have hcz86_6 : w85.cell? ⟨gb583, 6, none⟩ = some (.int .i64 a0_6) := (blk_cell BK583.out 6).trans rfl; have hcz86_7 : w85.cell? ⟨gb583, 7, none⟩ = some (.int .i64 a0_7) := (blk_cell BK583.out 7).trans rfl; have hcz86_8 : w85.cell? ⟨gb583, 8, none⟩ = some (.int .i64 a0_8) := (blk_cell BK583.out 8).trans rfl; have hcz86_9 : w85.cell? ⟨gb583, 9, none⟩ = some (.int .i64 a0_9) := (blk_cell BK583.out 9).trans rfl; have hcz86_10 : w85.cell? ⟨gb583, 10, none⟩ = some (.string a0_10) := (blk_cell BK583.out 10).trans rfl; have hcz86_11 : w85.cell? ⟨gb583, 11, none⟩ = some (.int .i64 a0_11) := (blk_cell BK583.out 11).trans rfl; have hcz86_12 : w85.cell? ⟨gb583, 12, none⟩ = some (.int .i64 a0_12) := (blk_cell BK583.out 12).trans rfl; have hcz86_13 : w85.cell? ⟨gb583, 13, none⟩ = some (.slice A0_13 l0_13.length c0_13) := (blk_cell BK583.out 13).trans rfl; have hfz86_0 := blk_frozen BK583.out 0; have hfz86_1 := blk_frozen BK583.out 1; have hfz86_2 := blk_frozen BK583.out 2; have hfz86_3 := blk_frozen BK583.out 3; have hfz86_4 := blk_frozen BK583.out 4; have hfz86_5 := blk_frozen BK583.out 5; have hfz86_6 := blk_frozen BK583.out 6; have hfz86_7 := blk_frozen BK583.out 7; have hfz86_8 := blk_frozen BK583.out 8; have hfz86_9 := blk_frozen BK583.out 9; have hfz86_10 := blk_frozen BK583.out 10; have hfz86_11 := blk_frozen BK583.out 11; have hfz86_12 := blk_frozen BK583.out 12; have hfz86_13 := blk_frozen BK583.out 13) | ((with_reducible refine gate_callee (f := 126) rfl ?_); refine goesL_ (some 11) rfl rfl Tryd.func126 (by kernel_rfl) rfl #[.agg #[.int .i64 a0_0, .int .i64 a0_1, .int .i64 a0_2, .int .i64 a0_3, .slice A0_4 l0_4.length c0_4, .bool a0_5, .int .i64 a0_6, .int .i64 a0_7, .int .i64 a0_8, .int .i64 a0_9, .string a0_10, .int .i64 a0_11, .int .i64 a0_12, .slice A0_13 l0_13.length c0_13]] rfl (by (try simp only [List.map_toArray, List.map_cons, List.map_nil]); first | done | rfl | (simp only [List.length_drop, List.length_take]; rfl)) ?_; (with_reducible refine (logfile_Check.callsK k a0_0 a0_1 a0_2 a0_3 _ _ l0_4 a0_5 a0_6 a0_7 a0_8 a0_9 a0_10 a0_11 a0_12 _ _ l0_13 t584 _ ?side1 ?side2 ?side3 ?side4 ?side5 HK0.out HK1.out HK2.out HK3.out HK4.out HK5.out HK6.out HK7.out A2.out).mono ?_); (case side1 => repeat (first | exact (Kd.C_below HR0_4.out HB.out) | (with_reducible refine Kd.C_alloc ?_ _) | (with_reducible refine Kd.C_drewN ?_ _) | (with_reducible refine Kd.C_drew ?_))); (case side2 => exact HC0_4.out); (case side3 => repeat (first | exact (Kd.C_below HR0_13.out HB.out) | (with_reducible refine Kd.C_alloc ?_ _) | (with_reducible refine Kd.C_drewN ?_ _) | (with_reducible refine Kd.C_drew ?_))); (case side4 => exact HC0_13.out); (case side5 => refine GL.below HGL.out ?_; repeat (first | (with_reducible first | exact HB.out | apply below_alloc | apply pw_below_drewN | apply below_drew1 | refine below_set ?_ GE583.out) | exact HB.out)); rintro e w87 ⟨rfl, hb⟩; refine ⟨_, rfl, ?_⟩; have n0_ := Aside0.mk (blk_below (g := gb583) (o := .cells #[.int .i64 a0_0, .int .i64 a0_1, .int .i64 a0_2, .int .i64 a0_3, .slice A0_4 l0_4.length c0_4, .bool a0_5, .int .i64 a0_6, .int .i64 a0_7, .int .i64 a0_8, .int .i64 a0_9, .string a0_10, .int .i64 a0_11, .int .i64 a0_12, .slice A0_13 l0_13.length c0_13] 141 (0, 0)) (by (with_reducible repeat (first | refine blk_drewN ?_ _ | refine blk_drew ?_ | refine blk_alloc ?_ _)); exact BK583.out) hb); have n1_ := Aside0.mk (below_step (by repeat (first | (with_reducible first | exact HB.out | apply below_alloc | apply pw_below_drewN | apply below_drew1 | refine below_set ?_ GE583.out) | exact HB.out)) hb); clear BK583; clear HB; have BK583 := n0_; have HB := n1_; clear n0_ n1_; (try clear hb); (try clear hb2); (try clear hk); (try clear hi); have hcz88_0 : w87.cell? ⟨gb583, 0, none⟩ = some (.int .i64 a0_0) := (blk_cell BK583.out 0).trans rfl; have hcz88_1 : w87.cell? ⟨gb583, 1, none⟩ = some (.int .i64 a0_1) := (blk_cell BK583.out 1).trans rfl; have hcz88_2 : w87.cell? ⟨gb583, 2, none⟩ = some (.int .i64 a0_2) := (blk_cell BK583.out 2).trans rfl; have hcz88_3 : w87.cell? ⟨gb583, 3, none⟩ = some (.int .i64 a0_3) := (blk_cell BK583.out 3).trans rfl; have hcz88_4 : w87.cell? ⟨gb583, 4, none⟩ = some (.slice A0_4 l0_4.length c0_4) := (blk_cell BK583.out 4).trans rfl; have hcz88_5 : w87.cell? ⟨gb583, 5, none⟩ = some (.bool a0_5) := (blk_cell BK583.out 5).trans rfl; have hcz88_6 : w87.cell? ⟨gb583, 6, none⟩ = some (.int .i64 a0_6) := (blk_cell BK583.out 6).trans rfl; have hcz88_7 : w87.cell? ⟨gb583, 7, none⟩ = some (.int .i64 a0_7) := (blk_cell BK583.out 7).trans rfl; have hcz88_8 : w87.cell? ⟨gb583, 8, none⟩ = some (.int .i64 a0_8) := (blk_cell BK583.out 8).trans rfl; have hcz88_9 : w87.cell? ⟨gb583, 9, none⟩ = some (.int .i64 a0_9) := (blk_cell BK583.out 9).trans rfl; have hcz88_10 : w87.cell? ⟨gb583, 10, none⟩ = some (.string a0_10) := (blk_cell BK583.out 10).trans rfl; have hcz88_11 : w87.cell? ⟨gb583, 11, none⟩ = some (.int .i64 a0_11) := (blk_cell BK583.out 11).trans rfl; have hcz88_12 : w87.cell? ⟨gb583, 12, none⟩ = some (.int .i64 a0_12) := (blk_cell BK583.out 12).trans rfl; have hcz88_13 : w87.cell? ⟨gb583, 13, none⟩ = some (.slice A0_13 l0_13.length c0_13) := (blk_cell BK583.out 13).trans rfl; have hfz88_0 := blk_frozen BK583.out 0; have hfz88_1 := blk_frozen BK583.out 1; have hfz88_2 := blk_frozen BK583.out 2; have hfz88_3 := blk_frozen BK583.out 3; have hfz88_4 := blk_frozen BK583.out 4; have hfz88_5 := blk_frozen BK583.out 5; have hfz88_6 := blk_frozen BK583.out 6; have hfz88_7 := blk_frozen BK583.out 7; have hfz88_8 := blk_frozen BK583.out 8; have hfz88_9 := blk_frozen BK583.out 9; have hfz88_10 := blk_frozen BK583.out 10; have hfz88_11 := blk_frozen BK583.out 11; have hfz88_12 := blk_frozen BK583.out 12; have hfz88_13 := blk_frozen BK583.out 13) | ((with_reducible refine gate_dst (N := 17) rfl ?_); (try (refine gate_guard (by rfl) ?_; dsimp only)); refine Kd.R_lit (Kd.int .i64) _ 3 ?hg (N := 17) ?hd (xs := ([a0_0] : List Int)) (inner := [.int .i64 a0_0]) (ok := fun _ => True) (okp := fun _ => True) ?hr ?hp (fun _ hk => hk) trivial (Below.refl _ _) (Nat.le_refl _) (by simp) ?_; (case hd => rfl); (case hg => rfl); (case hr => first | (go_simp; done) | (go_simp; rfl)); (case hp => exact (Reps.one (show Kd.M (Kd.int .i64) _ _ _ a0_0 [.int .i64 a0_0] from rfl) (Reps.none _ _))); intro v586 w89 ho90 hb hg_ hnew_; clear hg_ hnew_; (first | rw [← Ny585.out] at ho90 | (simp only [Int.reduceToNat] at ho90; rw [← Ny585.out] at ho90)); have n0_ := Aside0.mk (Kd.R_lower ho90 (below_size (by repeat (first | (with_reducible first | exact HB.out | apply below_alloc | apply pw_below_drewN | apply below_drew1 | refine below_set ?_ GE583.out) | exact HB.out)))); have n1_ := Aside0.mk (blk_below (g := gb583) (o := .cells #[.int .i64 a0_0, .int .i64 a0_1, .int .i64 a0_2, .int .i64 a0_3, .slice A0_4 l0_4.length c0_4, .bool a0_5, .int .i64 a0_6, .int .i64 a0_7, .int .i64 a0_8, .int .i64 a0_9, .string a0_10, .int .i64 a0_11, .int .i64 a0_12, .slice A0_13 l0_13.length c0_13] 141 (0, 0)) (by (with_reducible repeat (first | refine blk_drewN ?_ _ | refine blk_drew ?_ | refine blk_alloc ?_ _)); exact BK583.out) hb); have n2_ := Aside0.mk (below_step (by repeat (first | (with_reducible first | exact HB.out | apply below_alloc | apply pw_below_drewN | apply below_drew1 | refine below_set ?_ GE583.out) | exact HB.out)) hb); clear BK583; clear HB; have HO587 := n0_; have BK583 := n1_; have HB := n2_; clear n0_ n1_ n2_; clear hb ho90; obtain ⟨Ao91, co91, eo91⟩ := Kd.R_slice HO587.out; subst eo91) | ((with_reducible refine gate_callee (f := 89) rfl ?_); refine goesL_ (some 18) rfl rfl Tryd.func89 (by kernel_rfl) rfl #[.slice none 0 0, .slice Ao91 y585.length co91] rfl (by (try simp only [List.map_toArray, List.map_cons, List.map_nil]); first | done | rfl | (simp only [List.length_drop, List.length_take]; rfl)) ?_; (refine (logfile_appendNumbers.calls k (fun k_ => some k_ = (.slice none 0 0 : Value).ownBlock) (.slice none 0 0) ([] : List Int) _ _ y585 t588 w _ ?side1 ?side2 ?side3 ?side4 A4.out).mono ?_); (case side1 => repeat (first | (with_reducible first | exact HB.out | apply below_alloc | apply pw_below_drewN | apply below_drew1 | refine below_set ?_ GE583.out) | exact HB.out)); (case side2 => exact Kd.R_nil _ _ _ _ _); (case side3 => exact Kd.C_kept_own (HO587.out) (fun k_ hk_ hs_ => (fun e_ => by simp [Value.ownBlock] at e_) hs_)); (case side4 => exact (Kd.R_reads' HO587.out).2.1); rintro e w92 ⟨v589, rfl, ho0, hb, hkp⟩; refine ⟨_, rfl, ?_⟩; have n0_ := Aside0.mk (blk_kept (by (with_reducible repeat (first | refine blk_drewN ?_ _ | refine blk_drew ?_ | refine blk_alloc ?_ _)); exact BK583.out) hkp (fun hs_ => (fun e_ => by simp [Value.ownBlock] at e_) hs_)); have n1_ := Aside0.mk (Kd.R_mono (ok' := fun k_ => True) (Kd.R_keptB (HO587.out) hkp (fun k_ hk_ hs_ => (fun e_ => by simp [Value.ownBlock] at e_) hs_)) (fun k_ hk_ => trivial)); have n2_ := Aside0.mk (Kd.R_mono (ok' := fun k_ => True) ho0 (fun k_ hk_ => trivial)); have n3_ := Aside0.mk (hb); clear BK583; clear HO587; clear HB; have BK583 := n0_; have HO587 := n1_; have HO590 := n2_; have HB := n3_; clear n0_ n1_ n2_ n3_; (try clear hb); (try clear hkp); (try clear ho0); have hcz93_0 : w92.cell? ⟨gb583, 0, none⟩ = some (.int .i64 a0_0) := (blk_cell BK583.out 0).trans rfl; have hcz93_1 : w92.cell? ⟨gb583, 1, none⟩ = some (.int .i64 a0_1) := (blk_cell BK583.out 1).trans rfl; have hcz93_2 : w92.cell? ⟨gb583, 2, none⟩ = some (.int .i64 a0_2) := (blk_cell BK583.out 2).trans rfl; have hcz93_3 : w92.cell? ⟨gb583, 3, none⟩ = some (.int .i64 a0_3) := (blk_cell BK583.out 3).trans rfl; have hcz93_4 : w92.cell? ⟨gb583, 4, none⟩ = some (.slice A0_4 l0_4.length c0_4) := (blk_cell BK583.out 4).trans rfl; have hcz93_5 : w92.cell? ⟨gb583, 5, none⟩ = some (.bool a0_5) := (blk_cell BK583.out 5).trans rfl; have hcz93_6 : w92.cell? ⟨gb583, 6, none⟩ = some (.int .i64 a0_6) := (blk_cell BK583.out 6).trans rfl; have hcz93_7 : w92.cell? ⟨gb583, 7, none⟩ = some (.int .i64 a0_7) := (blk_cell BK583.out 7).trans rfl; have hcz93_8 : w92.cell? ⟨gb583, 8, none⟩ = some (.int .i64 a0_8) := (blk_cell BK583.out 8).trans rfl; have hcz93_9 : w92.cell? ⟨gb583, 9, none⟩ = some (.int .i64 a0_9) := (blk_cell BK583.out 9).trans rfl; have hcz93_10 : w92.cell? ⟨gb583, 10, none⟩ = some (.string a0_10) := (blk_cell BK583.out 10).trans rfl; have hcz93_11 : w92.cell? ⟨gb583, 11, none⟩ = some (.int .i64 a0_11) := (blk_cell BK583.out 11).trans rfl; have hcz93_12 : w92.cell? ⟨gb583, 12, none⟩ = some (.int .i64 a0_12) := (blk_cell BK583.out 12).trans rfl; have hcz93_13 : w92.cell? ⟨gb583, 13, none⟩ = some (.slice A0_13 l0_13.length c0_13) := (blk_cell BK583.out 13).trans rfl; have hfz93_0 := blk_frozen BK583.out 0; have hfz93_1 := blk_frozen BK583.out 1; have hfz93_2 := blk_frozen BK583.out 2; have hfz93_3 := blk_frozen BK583.out 3; have hfz93_4 := blk_frozen BK583.out 4; have hfz93_5 := blk_frozen BK583.out 5; have hfz93_6 := blk_frozen BK583.out 6; have hfz93_7 := blk_frozen BK583.out 7; have hfz93_8 := blk_frozen BK583.out 8; have hfz93_9 := blk_frozen BK583.out 9; have hfz93_10 := blk_frozen BK583.out 10; have hfz93_11 := blk_frozen BK583.out 11; have hfz93_12 := blk_frozen BK583.out 12; have hfz93_13 := blk_frozen BK583.out 13) | ((with_reducible refine gate_dst (N := 71) rfl ?_); (try (refine gate_guard (by rfl) ?_; dsimp only)); refine Kd.R_lit (Kd.int .i64) _ 3 ?hg (N := 71) ?hd (xs := ([a0_6, a0_7, a0_8, a0_9] : List Int)) (inner := [.int .i64 a0_6, .int .i64 a0_7, .int .i64 a0_8, .int .i64 a0_9]) (ok := fun _ => True) (okp := fun _ => True) ?hr ?hp (fun _ hk => hk) trivial (Below.refl _ _) (Nat.le_refl _) (by simp) ?_; (case hd => rfl); (case hg => rfl); (case hr => first | (go_simp; done) | (go_simp; rfl)); (case hp => exact (Reps.one (show Kd.M (Kd.int .i64) _ _ _ a0_6 [.int .i64 a0_6] from rfl) (Reps.one (show Kd.M (Kd.int .i64) _ _ _ a0_7 [.int .i64 a0_7] from rfl) (Reps.one (show Kd.M (Kd.int .i64) _ _ _ a0_8 [.int .i64 a0_8] from rfl) (Reps.one (show Kd.M (Kd.int .i64) _ _ _ a0_9 [.int .i64 a0_9] from rfl) (Reps.none _ _)))))); intro v611 w94 ho95 hb hg_ hnew_; clear hg_ hnew_; (first | rw [← Ny610.out] at ho95 | (simp only [Int.reduceToNat] at ho95; rw [← Ny610.out] at ho95)); have n0_ := Aside0.mk (Kd.R_elder' (by (with_reducible repeat (first | apply Kd.R_alloc | apply Kd.R_drewN | apply Kd.R_drew)); exact HO587.out) (Kd.R_base ho95) hb); have n1_ := Aside0.mk (Kd.R_below (by (with_reducible repeat (first | apply Kd.R_alloc | apply Kd.R_drewN | apply Kd.R_drew)); exact HO590.out) hb); have n2_ := Aside0.mk (Kd.R_lower (Kd.R_new' ho95 (Kd.R_lt (by (with_reducible repeat (first | apply Kd.R_alloc | apply Kd.R_drewN | apply Kd.R_drew)); exact HO587.out))) (below_size (by repeat (first | (with_reducible first | exact HB.out | apply below_alloc | apply pw_below_drewN | apply below_drew1 | refine below_set ?_ GE583.out) | exact HB.out)))); have n3_ := Aside0.mk (blk_below (g := gb583) (o := .cells #[.int .i64 a0_0, .int .i64 a0_1, .int .i64 a0_2, .int .i64 a0_3, .slice A0_4 l0_4.length c0_4, .bool a0_5, .int .i64 a0_6, .int .i64 a0_7, .int .i64 a0_8, .int .i64 a0_9, .string a0_10, .int .i64 a0_11, .int .i64 a0_12, .slice A0_13 l0_13.length c0_13] 141 (0, 0)) (by (with_reducible repeat (first | refine blk_drewN ?_ _ | refine blk_drew ?_ | refine blk_alloc ?_ _)); exact BK583.out) hb); have n4_ := Aside0.mk (below_step (by repeat (first | (with_reducible first | exact HB.out | apply below_alloc | apply pw_below_drewN | apply below_drew1 | refine below_set ?_ GE583.out) | exact HB.out)) hb); clear HO587; clear HO590; clear BK583; clear HB; have HO587 := n0_; have HO590 := n1_; have HO612 := n2_; have BK583 := n3_; have HB := n4_; clear n0_ n1_ n2_ n3_ n4_; clear hb ho95; obtain ⟨Ao96, co96, eo96⟩ := Kd.R_slice HO590.out; subst eo96; obtain ⟨Ao97, co97, eo97⟩ := Kd.R_slice HO612.out; subst eo97) | ((with_reducible refine gate_callee (f := 89) rfl ?_); refine goesL_ (some 72) rfl rfl Tryd.func89 (by kernel_rfl) rfl #[.slice Ao96 t588.length co96, .slice Ao97 y610.length co97] rfl (by (try simp only [List.map_toArray, List.map_cons, List.map_nil]); first | done | rfl | (simp only [List.length_drop, List.length_take]; rfl)) ?_; (with_reducible refine (logfile_appendNumbers.calls k (fun k_ => some k_ = (.slice Ao96 t588.length co96 : Value).ownBlock) (.slice Ao96 t588.length co96) t588 _ _ y610 t613 w _ ?side1 ?side2 ?side3 ?side4 A51.out).mono ?_); (case side1 => repeat (first | (with_reducible first | exact HB.out | apply below_alloc | apply pw_below_drewN | apply below_drew1 | refine below_set ?_ GE583.out) | exact HB.out)); (case side2 => exact Kd.R_tight rfl HO590.out); (case side3 => exact Kd.C_kept_own ((Kd.R_apart' HO612.out (Kd.R_typed HO590.out) (by decide))) (fun k_ hk_ hs_ => (hk_.2) hs_)); (case side4 => exact (Kd.R_reads' HO612.out).2.1); rintro e w98 ⟨v614, rfl, ho0, hb, hkp⟩; refine ⟨_, rfl, ?_⟩; have n0_ := Aside0.mk (blk_kept (by (with_reducible repeat (first | refine blk_drewN ?_ _ | refine blk_drew ?_ | refine blk_alloc ?_ _)); exact BK583.out) hkp (fun hs_ => (fun e_ => (Kd.R_ne HO590.out BK583.out (by decide)) e_) hs_)); have n1_ := Aside0.mk (Kd.R_mono (ok' := fun k_ => some k_ ≠ (.slice Ao97 y610.length co97 : Value).ownBlock) (Kd.R_keptB ((Kd.R_apart' HO587.out (Kd.R_typed HO590.out) (by decide))) hkp (fun k_ hk_ hs_ => (hk_.2) hs_)) (fun k_ hk_ => hk_.1.1.2)); have n2_ := Aside0.mk (Kd.R_mono (ok' := fun k_ => some k_ ≠ (.slice Ao91 y585.length co91 : Value).ownBlock) (Kd.R_keptB ((Kd.R_apart' HO612.out (Kd.R_typed HO590.out) (by decide))) hkp (fun k_ hk_ hs_ => (hk_.2) hs_)) (fun k_ hk_ => hk_.1.1.2)); have n3_ := Aside0.mk (Kd.R_mono (ok' := fun k_ => True) ho0 (fun k_ hk_ => trivial)); have n4_ := Aside0.mk (hb); clear BK583; clear HO587; clear HO612; clear HB; clear HO590; have BK583 := n0_; have HO587 := n1_; have HO612 := n2_; have HO615 := n3_; have HB := n4_; clear n0_ n1_ n2_ n3_ n4_; (try clear hb); (try clear hkp); (try clear ho0); have hcz99_0 : w98.cell? ⟨gb583, 0, none⟩ = some (.int .i64 a0_0) := (blk_cell BK583.out 0).trans rfl; have hcz99_1 : w98.cell? ⟨gb583, 1, none⟩ = some (.int .i64 a0_1) := (blk_cell BK583.out 1).trans rfl; have hcz99_2 : w98.cell? ⟨gb583, 2, none⟩ = some (.int .i64 a0_2) := (blk_cell BK583.out 2).trans rfl; have hcz99_3 : w98.cell? ⟨gb583, 3, none⟩ = some (.int .i64 a0_3) := (blk_cell BK583.out 3).trans rfl; have hcz99_4 : w98.cell? ⟨gb583, 4, none⟩ = some (.slice A0_4 l0_4.length c0_4) := (blk_cell BK583.out 4).trans rfl; have hcz99_5 : w98.cell? ⟨gb583, 5, none⟩ = some (.bool a0_5) := (blk_cell BK583.out 5).trans rfl; have hcz99_6 : w98.cell? ⟨gb583, 6, none⟩ = some (.int .i64 a0_6) := (blk_cell BK583.out 6).trans rfl; have hcz99_7 : w98.cell? ⟨gb583, 7, none⟩ = some (.int .i64 a0_7) := (blk_cell BK583.out 7).trans rfl; have hcz99_8 : w98.cell? ⟨gb583, 8, none⟩ = some (.int .i64 a0_8) := (blk_cell BK583.out 8).trans rfl; have hcz99_9 : w98.cell? ⟨gb583, 9, none⟩ = some (.int .i64 a0_9) := (blk_cell BK583.out 9).trans rfl; have hcz99_10 : w98.cell? ⟨gb583, 10, none⟩ = some (.string a0_10) := (blk_cell BK583.out 10).trans rfl; have hcz99_11 : w98.cell? ⟨gb583, 11, none⟩ = some (.int .i64 a0_11) := (blk_cell BK583.out 11).trans rfl; have hcz99_12 : w98.cell? ⟨gb583, 12, none⟩ = some (.int .i64 a0_12) := (blk_cell BK583.out 12).trans rfl; have hcz99_13 : w98.cell? ⟨gb583, 13, none⟩ = some (.slice A0_13 l0_13.length c0_13) := (blk_cell BK583.out 13).trans rfl; have hfz99_0 := blk_frozen BK583.out 0; have hfz99_1 := blk_frozen BK583.out 1; have hfz99_2 := blk_frozen BK583.out 2; have hfz99_3 := blk_frozen BK583.out 3; have hfz99_4 := blk_frozen BK583.out 4; have hfz99_5 := blk_frozen BK583.out 5; have hfz99_6 := blk_frozen BK583.out 6; have hfz99_7 := blk_frozen BK583.out 7; have hfz99_8 := blk_frozen BK583.out 8; have hfz99_9 := blk_frozen BK583.out 9; have hfz99_10 := blk_frozen BK583.out 10; have hfz99_11 := blk_frozen BK583.out 11; have hfz99_12 := blk_frozen BK583.out 12; have hfz99_13 := blk_frozen BK583.out 13; obtain ⟨Ao100, co100, eo100⟩ := Kd.R_slice HO615.out; subst eo100))
            go_ret2
            exact ⟨_, by first | rfl | (simp [errW_none, errW_some] <;> rfl) | (simp [*, errW_none, errW_some] <;> rfl) | (simp only [isEmpty_ne_, isEmpty_eq_]; rfl) | (simp [*, isEmpty_ne_, isEmpty_eq_]; done), by (with_reducible repeat (first | apply Kd.R_alloc | apply Kd.R_drewN | apply Kd.R_drew)); exact HO615.out, by repeat (first | (with_reducible first | exact HB.out | apply below_alloc | apply pw_below_drewN | apply below_drew1 | refine below_set ?_ GE583.out) | exact HB.out)⟩
      · exact absurd HK0.out c50
  · rw [if_neg c3] at H
    have c3b0 : (t584 == 0) = false := beq_eq_false_iff_ne.mpr c3
    have c3b1 : (t584 != 0) = true := bne_iff_ne.mpr c3
    simp only [Option.some.injEq, Prod.mk.injEq] at H
    obtain ⟨rfl, rfl⟩ := H
    go_enter Tryd.func91, Tryd.ntmps91
    go_wp2_with (first | ((with_reducible refine gate_dst (N := 1) rfl ?_); (try (refine gate_guard (by rfl) ?_; dsimp only)); refine box_event ?hg (N := 1) ?hd (cs := #[.int .i64 a0_0, .int .i64 a0_1, .int .i64 a0_2, .int .i64 a0_3, .slice A0_4 l0_4.length c0_4, .bool a0_5, .int .i64 a0_6, .int .i64 a0_7, .int .i64 a0_8, .int .i64 a0_9, .string a0_10, .int .i64 a0_11, .int .i64 a0_12, .slice A0_13 l0_13.length c0_13]) (t := 141) ?hr ?_; (case hd => rfl); (case hg => rfl); (case hr => first | (go_simp; done) | (go_simp; rfl)); intro gb583 hg w152 hbox hb; have n0_ := Aside0.mk (below_step (by repeat (first | (with_reducible first | exact HB.out | apply below_alloc | apply pw_below_drewN | apply below_drew1) | exact HB.out)) hb); have n1_ := Aside0.mk (hbox); have n2_ := Aside0.mk ((by rw [hg]; exact (below_size (by repeat (first | (with_reducible first | exact HB.out | apply below_alloc | apply pw_below_drewN | apply below_drew1) | exact HB.out))) : w.heap.size ≤ gb583)); have n3_ := Aside0.mk ((by rw [hg]; exact (below_size (by repeat (first | (with_reducible first | exact HB.out | apply below_alloc | apply pw_below_drewN | apply below_drew1) | exact HB.out))) : w.heap.size ≤ gb583)); clear HB; have HB := n0_; have BK583 := n1_; have GW583 := n2_; have GE583 := n3_; clear n0_ n1_ n2_ n3_; clear hb hbox hg; have hcz153_0 : w152.cell? ⟨gb583, 0, none⟩ = some (.int .i64 a0_0) := (blk_cell BK583.out 0).trans rfl; have hcz153_1 : w152.cell? ⟨gb583, 1, none⟩ = some (.int .i64 a0_1) := (blk_cell BK583.out 1).trans rfl; have hcz153_2 : w152.cell? ⟨gb583, 2, none⟩ = some (.int .i64 a0_2) := (blk_cell BK583.out 2).trans rfl; have hcz153_3 : w152.cell? ⟨gb583, 3, none⟩ = some (.int .i64 a0_3) := (blk_cell BK583.out 3).trans rfl; have hcz153_4 : w152.cell? ⟨gb583, 4, none⟩ = some (.slice A0_4 l0_4.length c0_4) := (blk_cell BK583.out 4).trans rfl; have hcz153_5 : w152.cell? ⟨gb583, 5, none⟩ = some (.bool a0_5) := (blk_cell BK583.out 5).trans rfl; have hcz153_6 : w152.cell? ⟨gb583, 6, none⟩ = some (.int .i64 a0_6) := (blk_cell BK583.out 6).trans rfl; have hcz153_7 : w152.cell? ⟨gb583, 7, none⟩ = some (.int .i64 a0_7) := (blk_cell BK583.out 7).trans rfl; have hcz153_8 : w152.cell? ⟨gb583, 8, none⟩ = some (.int .i64 a0_8) := (blk_cell BK583.out 8).trans rfl; have hcz153_9 : w152.cell? ⟨gb583, 9, none⟩ = some (.int .i64 a0_9) := (blk_cell BK583.out 9).trans rfl; have hcz153_10 : w152.cell? ⟨gb583, 10, none⟩ = some (.string a0_10) := (blk_cell BK583.out 10).trans rfl; have hcz153_11 : w152.cell? ⟨gb583, 11, none⟩ = some (.int .i64 a0_11) := (blk_cell BK583.out 11).trans rfl; have hcz153_12 : w152.cell? ⟨gb583, 12, none⟩ = some (.int .i64 a0_12) := (blk_cell BK583.out 12).trans rfl; have hcz153_13 : w152.cell? ⟨gb583, 13, none⟩ = some (.slice A0_13 l0_13.length c0_13) := (blk_cell BK583.out 13).trans rfl; have hfz153_0 := blk_frozen BK583.out 0; have hfz153_1 := blk_frozen BK583.out 1; have hfz153_2 := blk_frozen BK583.out 2; have hfz153_3 := blk_frozen BK583.out 3; have hfz153_4 := blk_frozen BK583.out 4; have hfz153_5 := blk_frozen BK583.out 5; have hfz153_6 := blk_frozen BK583.out 6; have hfz153_7 := blk_frozen BK583.out 7; have hfz153_8 := blk_frozen BK583.out 8; have hfz153_9 := blk_frozen BK583.out 9; have hfz153_10 := blk_frozen BK583.out 10; have hfz153_11 := blk_frozen BK583.out 11; have hfz153_12 := blk_frozen BK583.out 12; have hfz153_13 := blk_frozen BK583.out 13) | ((with_reducible refine gate_callee (f := 126) rfl ?_); refine goesL_ (some 11) rfl rfl Tryd.func126 (by kernel_rfl) rfl #[.agg #[.int .i64 a0_0, .int .i64 a0_1, .int .i64 a0_2, .int .i64 a0_3, .slice A0_4 l0_4.length c0_4, .bool a0_5, .int .i64 a0_6, .int .i64 a0_7, .int .i64 a0_8, .int .i64 a0_9, .string a0_10, .int .i64 a0_11, .int .i64 a0_12, .slice A0_13 l0_13.length c0_13]] rfl (by (try simp only [List.map_toArray, List.map_cons, List.map_nil]); first | done | rfl | (simp only [List.length_drop, List.length_take]; rfl)) ?_; (with_reducible refine (logfile_Check.callsK k a0_0 a0_1 a0_2 a0_3 _ _ l0_4 a0_5 a0_6 a0_7 a0_8 a0_9 a0_10 a0_11 a0_12 _ _ l0_13 t584 _ ?side1 ?side2 ?side3 ?side4 ?side5 HK0.out HK1.out HK2.out HK3.out HK4.out HK5.out HK6.out HK7.out A2.out).mono ?_); (case side1 => repeat (first | exact (Kd.C_below HR0_4.out HB.out) | (with_reducible refine Kd.C_alloc ?_ _) | (with_reducible refine Kd.C_drewN ?_ _) | (with_reducible refine Kd.C_drew ?_))); (case side2 => exact HC0_4.out); (case side3 => repeat (first | exact (Kd.C_below HR0_13.out HB.out) | (with_reducible refine Kd.C_alloc ?_ _) | (with_reducible refine Kd.C_drewN ?_ _) | (with_reducible refine Kd.C_drew ?_))); (case side4 => exact HC0_13.out); (case side5 => refine GL.below HGL.out ?_; repeat (first | (with_reducible first | exact HB.out | apply below_alloc | apply pw_below_drewN | apply below_drew1 | refine below_set ?_ GE583.out) | exact HB.out)); rintro e w154 ⟨rfl, hb⟩; refine ⟨_, rfl, ?_⟩; have n0_ := Aside0.mk (blk_below (g := gb583) (o := .cells #[.int .i64 a0_0, .int .i64 a0_1, .int .i64 a0_2, .int .i64 a0_3, .slice A0_4 l0_4.length c0_4, .bool a0_5, .int .i64 a0_6, .int .i64 a0_7, .int .i64 a0_8, .int .i64 a0_9, .string a0_10, .int .i64 a0_11, .int .i64 a0_12, .slice A0_13 l0_13.length c0_13] 141 (0, 0)) (by (with_reducible repeat (first | refine blk_drewN ?_ _ | refine blk_drew ?_ | refine blk_alloc ?_ _)); exact BK583.out) hb); have n1_ := Aside0.mk (below_step (by repeat (first | (with_reducible first | exact HB.out | apply below_alloc | apply pw_below_drewN | apply below_drew1 | refine below_set ?_ GE583.out) | exact HB.out)) hb); clear BK583; clear HB; have BK583 := n0_; have HB := n1_; clear n0_ n1_; (try clear hb); (try clear hb2); (try clear hk); (try clear hi)))
    go_ret2
    exact ⟨_, by first | rfl | (simp [errW_none, errW_some] <;> rfl) | (simp [*, errW_none, errW_some] <;> rfl) | (simp only [isEmpty_ne_, isEmpty_eq_]; rfl) | (simp [*, isEmpty_ne_, isEmpty_eq_]; done), by first | exact Kd.R_nil _ _ _ _ _ | exact Kd.N_nil _ _ _ _ _ | exact Kd.V_nil _ _ _ _ _ | exact Kd.Q_nil _ _ _ _ _ | exact Kd.S_nil _ _ _ _ _, by repeat (first | (with_reducible first | exact HB.out | apply below_alloc | apply pw_below_drewN | apply below_drew1 | refine below_set ?_ GE583.out) | exact HB.out)⟩
end Go.Proofs.YtjnlmmjadlidlaaDoor.PRec
end
