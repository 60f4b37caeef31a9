-- Written by a program of mine (wip/kprint.sh): a plain Lean function for each Go function, and the proof that the Go code comes to its answers. Not trusted: Lean checks it.
import Derived.Test.YtjnlmmjadlidlaaDoorPRecx0
namespace Go.Proofs.YtjnlmmjadlidlaaDoor.PRec
open Go.RowKit Go.Proofs.YtjnlmmjadlidlaaDoorW.PrintWords Go.Proofs.YtjnlmmjadlidlaaDoorW.PrintLast Go.Proofs.YtjnlmmjadlidlaaDoorW.PrintMore
attribute [local go_sem] max2_int min2_int max_two min_two max_three min_three max_four min_four   -- for this text's walks alone
set_option linter.unusedVariables false
set_option linter.unusedSimpArgs false

/-! ### kauditref03_kinds: function 83 -/
def kauditref03_kinds.f  : Option ((List (S126))) := some (([(⟨(⟨#[85, 83, 69, 82]⟩ : ByteArray), 1005, true⟩ : S126), (⟨(⟨#[68, 65, 69, 77, 79, 78]⟩ : ByteArray), 1200, true⟩ : S126), (⟨(⟨#[83, 89, 83, 67, 65, 76, 76]⟩ : ByteArray), 1300, false⟩ : S126), (⟨(⟨#[80, 65, 84, 72]⟩ : ByteArray), 1302, false⟩ : S126), (⟨(⟨#[67, 79, 78, 70, 73, 71]⟩ : ByteArray), 1305, true⟩ : S126), (⟨(⟨#[83, 79, 67, 75, 65, 68, 68, 82]⟩ : ByteArray), 1306, false⟩ : S126), (⟨(⟨#[67, 87, 68]⟩ : ByteArray), 1307, false⟩ : S126), (⟨(⟨#[69, 88, 69, 67, 86, 69]⟩ : ByteArray), 1309, false⟩ : S126), (⟨(⟨#[69, 79, 69]⟩ : ByteArray), 1320, false⟩ : S126), (⟨(⟨#[76, 79, 83, 83]⟩ : ByteArray), 1331, true⟩ : S126)] : List (S126)))
set_option maxHeartbeats 8000000 in
set_option maxRecDepth 100000 in
theorem kauditref03_kinds.calls  (r : List (S126)) (w : World) (h : kauditref03_kinds.f  = some r) :
    Calls Tryd.prog 83 #[] w fun e w' => ∃ v0_ : Value, e = .returned (v0_) ∧ Kd.R k126 126 w' w.heap.size (fun _ => True) v0_ r ∧ Below w.heap.size w w' := by
  have hu126 := Tryd.underlying126
  have HB := Aside0.mk (Below.refl w.heap.size w)
  have H : (some (([(⟨(⟨#[85, 83, 69, 82]⟩ : ByteArray), 1005, true⟩ : S126), (⟨(⟨#[68, 65, 69, 77, 79, 78]⟩ : ByteArray), 1200, true⟩ : S126), (⟨(⟨#[83, 89, 83, 67, 65, 76, 76]⟩ : ByteArray), 1300, false⟩ : S126), (⟨(⟨#[80, 65, 84, 72]⟩ : ByteArray), 1302, false⟩ : S126), (⟨(⟨#[67, 79, 78, 70, 73, 71]⟩ : ByteArray), 1305, true⟩ : S126), (⟨(⟨#[83, 79, 67, 75, 65, 68, 68, 82]⟩ : ByteArray), 1306, false⟩ : S126), (⟨(⟨#[67, 87, 68]⟩ : ByteArray), 1307, false⟩ : S126), (⟨(⟨#[69, 88, 69, 67, 86, 69]⟩ : ByteArray), 1309, false⟩ : S126), (⟨(⟨#[69, 79, 69]⟩ : ByteArray), 1320, false⟩ : S126), (⟨(⟨#[76, 79, 83, 83]⟩ : ByteArray), 1331, true⟩ : S126)] : List (S126)))) = some r := h
  clear h
  obtain ⟨y139, hy139⟩ : ∃ y_ : List (S126), y_ = (([(⟨(⟨#[85, 83, 69, 82]⟩ : ByteArray), 1005, true⟩ : S126), (⟨(⟨#[68, 65, 69, 77, 79, 78]⟩ : ByteArray), 1200, true⟩ : S126), (⟨(⟨#[83, 89, 83, 67, 65, 76, 76]⟩ : ByteArray), 1300, false⟩ : S126), (⟨(⟨#[80, 65, 84, 72]⟩ : ByteArray), 1302, false⟩ : S126), (⟨(⟨#[67, 79, 78, 70, 73, 71]⟩ : ByteArray), 1305, true⟩ : S126), (⟨(⟨#[83, 79, 67, 75, 65, 68, 68, 82]⟩ : ByteArray), 1306, false⟩ : S126), (⟨(⟨#[67, 87, 68]⟩ : ByteArray), 1307, false⟩ : S126), (⟨(⟨#[69, 88, 69, 67, 86, 69]⟩ : ByteArray), 1309, false⟩ : S126), (⟨(⟨#[69, 79, 69]⟩ : ByteArray), 1320, false⟩ : S126), (⟨(⟨#[76, 79, 83, 83]⟩ : ByteArray), 1331, true⟩ : S126)] : List (S126))) := ⟨_, rfl⟩
  replace H : (some y139) = some r := by first | (rw [hy139]; with_reducible exact H) | (have H2_ := (Option.bind_some _ _).symm.trans H; rw [hy139]; with_reducible exact H2_) | (have H2_ := (Option.bind_some _ _).symm.trans H; with_reducible exact H2_) | with_reducible exact H | (rw [hy139]; exact H) | exact H
  have Ny139 := Aside0.mk hy139
  clear hy139
  obtain rfl := Option.some.inj H
  go_enter Tryd.func83, Tryd.ntmps83
  go_wp2_with (first | ((with_reducible refine gate_dst (N := 11) rfl ?_); refine Kd.R_lit k126 _ 126 ?hg (N := 11) ?hd (xs := ([(⟨(⟨#[85, 83, 69, 82]⟩ : ByteArray), 1005, true⟩ : S126), (⟨(⟨#[68, 65, 69, 77, 79, 78]⟩ : ByteArray), 1200, true⟩ : S126), (⟨(⟨#[83, 89, 83, 67, 65, 76, 76]⟩ : ByteArray), 1300, false⟩ : S126), (⟨(⟨#[80, 65, 84, 72]⟩ : ByteArray), 1302, false⟩ : S126), (⟨(⟨#[67, 79, 78, 70, 73, 71]⟩ : ByteArray), 1305, true⟩ : S126), (⟨(⟨#[83, 79, 67, 75, 65, 68, 68, 82]⟩ : ByteArray), 1306, false⟩ : S126), (⟨(⟨#[67, 87, 68]⟩ : ByteArray), 1307, false⟩ : S126), (⟨(⟨#[69, 88, 69, 67, 86, 69]⟩ : ByteArray), 1309, false⟩ : S126), (⟨(⟨#[69, 79, 69]⟩ : ByteArray), 1320, false⟩ : S126), (⟨(⟨#[76, 79, 83, 83]⟩ : ByteArray), 1331, true⟩ : S126)] : List (S126))) (inner := [.string (⟨#[85, 83, 69, 82]⟩ : ByteArray), .int .i64 1005, .bool true, .string (⟨#[68, 65, 69, 77, 79, 78]⟩ : ByteArray), .int .i64 1200, .bool true, .string (⟨#[83, 89, 83, 67, 65, 76, 76]⟩ : ByteArray), .int .i64 1300, .bool false, .string (⟨#[80, 65, 84, 72]⟩ : ByteArray), .int .i64 1302, .bool false, .string (⟨#[67, 79, 78, 70, 73, 71]⟩ : ByteArray), .int .i64 1305, .bool true, .string (⟨#[83, 79, 67, 75, 65, 68, 68, 82]⟩ : ByteArray), .int .i64 1306, .bool false, .string (⟨#[67, 87, 68]⟩ : ByteArray), .int .i64 1307, .bool false, .string (⟨#[69, 88, 69, 67, 86, 69]⟩ : ByteArray), .int .i64 1309, .bool false, .string (⟨#[69, 79, 69]⟩ : ByteArray), .int .i64 1320, .bool false, .string (⟨#[76, 79, 83, 83]⟩ : ByteArray), .int .i64 1331, .bool true]) (ok := fun _ => True) (okp := fun _ => True) ?hr ?hp (fun _ hk => hk) trivial (Below.refl _ _) (Nat.le_refl _) (by simp) ?_; (case hd => rfl); (case hg => rfl); (case hr => first | (go_simp; done) | (go_simp; rfl)); (case hp => exact (Reps.c3 (show Kd.M k126 _ _ _ (⟨(⟨#[85, 83, 69, 82]⟩ : ByteArray), 1005, true⟩ : S126) [.string (⟨#[85, 83, 69, 82]⟩ : ByteArray), .int .i64 1005, .bool true] from (k126_mkM _ _ _ (⟨(⟨#[85, 83, 69, 82]⟩ : ByteArray), 1005, true⟩ : S126) )) (Reps.c3 (show Kd.M k126 _ _ _ (⟨(⟨#[68, 65, 69, 77, 79, 78]⟩ : ByteArray), 1200, true⟩ : S126) [.string (⟨#[68, 65, 69, 77, 79, 78]⟩ : ByteArray), .int .i64 1200, .bool true] from (k126_mkM _ _ _ (⟨(⟨#[68, 65, 69, 77, 79, 78]⟩ : ByteArray), 1200, true⟩ : S126) )) (Reps.c3 (show Kd.M k126 _ _ _ (⟨(⟨#[83, 89, 83, 67, 65, 76, 76]⟩ : ByteArray), 1300, false⟩ : S126) [.string (⟨#[83, 89, 83, 67, 65, 76, 76]⟩ : ByteArray), .int .i64 1300, .bool false] from (k126_mkM _ _ _ (⟨(⟨#[83, 89, 83, 67, 65, 76, 76]⟩ : ByteArray), 1300, false⟩ : S126) )) (Reps.c3 (show Kd.M k126 _ _ _ (⟨(⟨#[80, 65, 84, 72]⟩ : ByteArray), 1302, false⟩ : S126) [.string (⟨#[80, 65, 84, 72]⟩ : ByteArray), .int .i64 1302, .bool false] from (k126_mkM _ _ _ (⟨(⟨#[80, 65, 84, 72]⟩ : ByteArray), 1302, false⟩ : S126) )) (Reps.c3 (show Kd.M k126 _ _ _ (⟨(⟨#[67, 79, 78, 70, 73, 71]⟩ : ByteArray), 1305, true⟩ : S126) [.string (⟨#[67, 79, 78, 70, 73, 71]⟩ : ByteArray), .int .i64 1305, .bool true] from (k126_mkM _ _ _ (⟨(⟨#[67, 79, 78, 70, 73, 71]⟩ : ByteArray), 1305, true⟩ : S126) )) (Reps.c3 (show Kd.M k126 _ _ _ (⟨(⟨#[83, 79, 67, 75, 65, 68, 68, 82]⟩ : ByteArray), 1306, false⟩ : S126) [.string (⟨#[83, 79, 67, 75, 65, 68, 68, 82]⟩ : ByteArray), .int .i64 1306, .bool false] from (k126_mkM _ _ _ (⟨(⟨#[83, 79, 67, 75, 65, 68, 68, 82]⟩ : ByteArray), 1306, false⟩ : S126) )) (Reps.c3 (show Kd.M k126 _ _ _ (⟨(⟨#[67, 87, 68]⟩ : ByteArray), 1307, false⟩ : S126) [.string (⟨#[67, 87, 68]⟩ : ByteArray), .int .i64 1307, .bool false] from (k126_mkM _ _ _ (⟨(⟨#[67, 87, 68]⟩ : ByteArray), 1307, false⟩ : S126) )) (Reps.c3 (show Kd.M k126 _ _ _ (⟨(⟨#[69, 88, 69, 67, 86, 69]⟩ : ByteArray), 1309, false⟩ : S126) [.string (⟨#[69, 88, 69, 67, 86, 69]⟩ : ByteArray), .int .i64 1309, .bool false] from (k126_mkM _ _ _ (⟨(⟨#[69, 88, 69, 67, 86, 69]⟩ : ByteArray), 1309, false⟩ : S126) )) (Reps.c3 (show Kd.M k126 _ _ _ (⟨(⟨#[69, 79, 69]⟩ : ByteArray), 1320, false⟩ : S126) [.string (⟨#[69, 79, 69]⟩ : ByteArray), .int .i64 1320, .bool false] from (k126_mkM _ _ _ (⟨(⟨#[69, 79, 69]⟩ : ByteArray), 1320, false⟩ : S126) )) (Reps.c3 (show Kd.M k126 _ _ _ (⟨(⟨#[76, 79, 83, 83]⟩ : ByteArray), 1331, true⟩ : S126) [.string (⟨#[76, 79, 83, 83]⟩ : ByteArray), .int .i64 1331, .bool true] from (k126_mkM _ _ _ (⟨(⟨#[76, 79, 83, 83]⟩ : ByteArray), 1331, true⟩ : S126) )) (Reps.none _ _)))))))))))); intro v140 w1 ho2 hb hg_ hnew_; clear hg_ hnew_; (first | rw [← Ny139.out] at ho2 | (simp only [Int.reduceToNat] at ho2; rw [← Ny139.out] at ho2)); have n0_ := Aside0.mk (Kd.R_lower ho2 (below_size (by repeat (first | (with_reducible first | exact HB.out | apply below_alloc | apply pw_below_drewN | apply below_drew1) | exact HB.out)))); have n1_ := Aside0.mk (below_step (by repeat (first | (with_reducible first | exact HB.out | apply below_alloc | apply pw_below_drewN | apply below_drew1) | exact HB.out)) hb); clear HB; have HO141 := n0_; have HB := n1_; clear n0_ n1_; clear hb ho2))
  go_ret
  exact ⟨_, by first | rfl | (simp [errW_none, errW_some] <;> rfl) | (simp [*, errW_none, errW_some] <;> rfl) | (simp only [isEmpty_ne_, isEmpty_eq_]; rfl) | (simp [*, isEmpty_ne_, isEmpty_eq_]; done), by (with_reducible repeat (first | apply Kd.R_alloc | apply Kd.R_drewN | apply Kd.R_drew)); exact HO141.out, by repeat (first | (with_reducible first | exact HB.out | apply below_alloc | apply pw_below_drewN | apply below_drew1) | exact HB.out)⟩

/-! ### kauditref03_Types: function 41 -/
def kauditref03_Types.l0 : Nat → List Int → List (S126) → Int → Option (List Int)
  | 0, _, _, _ => none
  | k + 1, x1, x2, x3 => if x3 < (x2.length : Int) then (if 0 ≤ x3 then (if x1.length < 17592186044416 then (kauditref03_Types.l0 k (x1 ++ [(rd_T126 x2 x3).f1]) x2 (wrap64 (x3 + 1))) else (none)) else (none)) else (some x1)
def kauditref03_Types.f (k : Nat)  : Option (List Int) := (kauditref03_kinds.f).bind fun t142 => (kauditref03_Types.l0 k ([] : List Int) t142 0)
theorem kauditref03_Types.mono_l : ∀ k, (∀ y0 y1 y2, LeO (kauditref03_Types.l0 k y0 y1 y2) (kauditref03_Types.l0 (k + 1) y0 y1 y2))
  | 0 => fun _ _ _ r h => by simp [kauditref03_Types.l0] at h
  | k + 1 => by
    have ih0 := kauditref03_Types.mono_l k
    · intro y0 y1 y2
      unfold kauditref03_Types.l0
      repeat' first
      | (with_reducible exact ih0 _ _ _)
      | (with_reducible exact LeO.refl _)
      | (with_reducible exact LeO.none _)
      | (with_reducible refine LeO.ite ?_ ?_)
      | (with_reducible refine LeO.bind ?_ (fun _ => ?_))
      | exact ih0 _ _ _
      | exact LeO.none _
      | refine LeO.ite ?_ ?_
      | refine LeO.bind ?_ (fun _ => ?_)
theorem kauditref03_Types.mono : ∀ k, LeO (kauditref03_Types.f k ) (kauditref03_Types.f (k + 1) ) := by
  intro  k
  have ih0 := kauditref03_Types.mono_l k
  unfold kauditref03_Types.f
  repeat' first
      | (with_reducible exact ih0 _ _ _)
      | (with_reducible exact LeO.refl _)
      | (with_reducible exact LeO.none _)
      | (with_reducible refine LeO.ite ?_ ?_)
      | (with_reducible refine LeO.bind ?_ (fun _ => ?_))
      | exact ih0 _ _ _
      | exact LeO.none _
      | refine LeO.ite ?_ ?_
      | refine LeO.bind ?_ (fun _ => ?_)
set_option maxHeartbeats 8000000 in
set_option maxRecDepth 100000 in
theorem kauditref03_Types.calls (k : Nat)  (r : List Int) (w : World) (h : kauditref03_Types.f k  = some r) :
    Calls Tryd.prog 41 #[] w fun e w' => ∃ v0_ : Value, e = .returned (v0_) ∧ Kd.R (Kd.int .i64) 3 w' w.heap.size (fun _ => True) v0_ r ∧ Below w.heap.size w w' := by
  have HB := Aside0.mk (Below.refl w.heap.size w)
  have H : ((kauditref03_kinds.f).bind fun t142 => (kauditref03_Types.l0 k ([] : List Int) t142 0)) = some r := h
  clear h
  replace H := Option.bind_eq_some_iff.mp H
  obtain ⟨t142, A10, H⟩ := H
  replace H : (kauditref03_Types.l0 k ([] : List Int) t142 0) = some r := H
  have A1 := Aside0.mk A10
  clear A10
  have H' := Aside0.mk H
  clear H
  go_enter Tryd.func41, Tryd.ntmps41
  go_wp2_with (first | ((with_reducible refine gate_callee (f := 83) rfl ?_); refine goesL_ (some 4) rfl rfl Tryd.func83 (by kernel_rfl) rfl #[] rfl (by (try simp only [List.map_toArray, List.map_cons, List.map_nil]); first | done | rfl | (simp only [List.length_drop, List.length_take]; rfl)) ?_; (with_reducible refine (kauditref03_kinds.calls  t142 _ A1.out).mono ?_); rintro e w2 ⟨v143, rfl, ho0, hb⟩; refine ⟨_, rfl, ?_⟩; have n0_ := Aside0.mk (Kd.R_lower ho0 (below_size (by repeat (first | (with_reducible first | exact HB.out | apply below_alloc | apply pw_below_drewN | apply below_drew1) | exact HB.out)))); have n1_ := Aside0.mk (below_step (by repeat (first | (with_reducible first | exact HB.out | apply below_alloc | apply pw_below_drewN | apply below_drew1) | exact HB.out)) hb); clear HB; have HO144 := n0_; have HB := n1_; clear n0_ n1_; (try clear hb); (try clear hb2); (try clear hk); (try clear hi); (try clear ho0)))
  go_loopg [1, 3] k (fun kq v1 v3 w' => ∃ (x1_1 : List Int) (x3_1 : Int), v3 = .int .i64 x3_1 ∧ Aside0 (kauditref03_Types.l0 kq x1_1 t142 x3_1 = some r) ∧ Aside0 (kq ≤ k) ∧ Aside0 (Kd.R (Kd.int .i64) 3 w' w.heap.size (fun _ => True) v1 x1_1) ∧ Aside0 (Kd.R k126 126 w' w.heap.size (fun _ => True) v143 t142) ∧ Aside0 (Below w.heap.size w w'))
  case atStart => exact ⟨(([] : List Int)), (0), (by first | rfl | (simp; done) | (simp [*]; done) | (simp only [isEmpty_ne_]; done)), H', ⟨Nat.le_refl _⟩, ⟨by first | exact Kd.R_nil _ _ _ _ _ | exact Kd.N_nil _ _ _ _ _ | exact Kd.V_nil _ _ _ _ _ | exact Kd.Q_nil _ _ _ _ _ | exact Kd.S_nil _ _ _ _ _⟩, ⟨by (with_reducible repeat (first | apply Kd.R_alloc | apply Kd.R_drewN | apply Kd.R_drew)); exact HO144.out⟩, ⟨by repeat (first | (with_reducible first | exact HB.out | apply below_alloc | apply pw_below_drewN | apply below_drew1) | exact HB.out)⟩⟩
  case round =>
    clear H'
    try clear p2
    obtain ⟨x1_1, x3_1, rfl, HA, HK1, HO_1, HO_2, HB⟩ := hrel
    cases gk with
    | zero => exact absurd HA.out (by simp [kauditref03_Types.l0])
    | succ k1 =>
      have H := HA.out
      clear HA
      simp only [kauditref03_Types.l0] at H
      by_cases c3 : x3_1 < (t142.length : Int)
      · rw [if_pos c3] at H
        have c3b0 : decide (x3_1 < (t142.length : Int)) = true := decide_eq_true c3
        clear c3
        by_cases c4 : 0 ≤ x3_1
        · rw [if_pos c4] at H
          have c4b0 : decide (0 ≤ x3_1) = true := decide_eq_true c4
          clear c4
          by_cases c5 : x1_1.length < 17592186044416
          · rw [if_pos c5] at H
            have LMc5 := Aside0.mk c5
            clear c5
            obtain ⟨y146, hy146⟩ : ∃ y_ : List Int, y_ = (x1_1 ++ [(rd_T126 t142 x3_1).f1]) := ⟨_, rfl⟩
            replace H : (kauditref03_Types.l0 k1 y146 t142 (wrap64 (x3_1 + 1))) = some r := by first | (rw [hy146]; with_reducible exact H) | (have H2_ := (Option.bind_some _ _).symm.trans H; rw [hy146]; with_reducible exact H2_) | (have H2_ := (Option.bind_some _ _).symm.trans H; with_reducible exact H2_) | with_reducible exact H | (rw [hy146]; exact H) | exact H
            have Ny146 := Aside0.mk hy146
            clear hy146
            have H' := Aside0.mk H
            clear H
            obtain ⟨Ao6, co6, eo6⟩ := Kd.R_slice HO_2.out
            subst eo6
            have p145 : 0 ≤ (x3_1 : Int) := of_decide_eq_true (by first | (with_reducible assumption) | assumption)
            have q145 : x3_1 < (t142.length : Int) := of_decide_eq_true (by first | (with_reducible assumption) | assumption)
            obtain ⟨ad145, e145, hx145_0, hx145_1, hx145_2⟩ := at_T126 (Kd.R_reads' HO_2.out).2.2 x3_1 p145 q145
            cases e145
            replace p145 := eq_true p145
            replace q145 := eq_true q145
            go_wp2_with (first | ((with_reducible refine gate_builtin (b := .append) (xs := #[.tmp 11, .tmp 17]) rfl ?_); at_builtin; refine Kd.R_append (Kd.int .i64) (w0 := w) w.heap.size rfl (.tmp 11) (.tmp 17) 41 3 (.int .i64 0) 8 rfl Tryd.underlying41 info3 rfl (by decide) (by omega) u1 x1_1 ((rd_T126 t142 x3_1).f1) [.int .i64 ((rd_T126 t142 x3_1).f1)] (fun _ => True) (fun _ => False) rfl rfl ?aP (fun _ hk => hk.elim) ?aF ?aO ?aB ?aS ?aL ?_; (case aP => exact rfl); (case aB => exact (by repeat (first | (with_reducible first | exact HB.out | apply below_alloc | apply pw_below_drewN | apply below_drew1) | exact HB.out))); (case aF => exact (fun _ _ => trivial)); (case aO => exact (by (with_reducible repeat (first | apply Kd.R_alloc | apply Kd.R_drewN | apply Kd.R_drew)); exact HO_1.out)); (case aS => exact (below_size (by repeat (first | (with_reducible first | exact HB.out | apply below_alloc | apply pw_below_drewN | apply below_drew1) | exact HB.out)))); (case aL => have := LMc5.out; omega); intro v147 w7 ho hb hg hat; rw [← Ny146.out] at ho; have n0_ := Aside0.mk (Kd.R_over' (by (with_reducible repeat (first | apply Kd.R_alloc | apply Kd.R_drewN | apply Kd.R_drew)); exact HO_2.out) (Kd.R_typed (by (with_reducible repeat (first | apply Kd.R_alloc | apply Kd.R_drewN | apply Kd.R_drew)); exact HO_1.out)) (by decide) hg); have n1_ := Aside0.mk (hb); have n2_ := Aside0.mk (ho); clear HO_2; clear HB; clear HO_1; have HO_2 := n0_; have HB := n1_; have HO148 := n2_; clear n0_ n1_ n2_; clear ho hb hg hat))
            go_roundg k1
            case measure => have := HK1.out; omega
            case rel => exact ⟨(y146), (wrap64 (x3_1 + 1)), (by first | rfl | (simp; done) | (simp [*]; done) | (simp only [isEmpty_ne_]; done)), H', ⟨by have := HK1.out; omega⟩, ⟨by (with_reducible repeat (first | apply Kd.R_alloc | apply Kd.R_drewN | apply Kd.R_drew)); exact HO148.out⟩, ⟨by (with_reducible repeat (first | apply Kd.R_alloc | apply Kd.R_drewN | apply Kd.R_drew)); exact HO_2.out⟩, ⟨by repeat (first | (with_reducible first | exact HB.out | apply below_alloc | apply pw_below_drewN | apply below_drew1) | exact HB.out)⟩⟩
          · rw [if_neg c5] at H
            exact absurd H (by simp)
        · rw [if_neg c4] at H
          exact absurd H (by simp)
      · rw [if_neg c3] at H
        have c3b0 : decide (x3_1 < (t142.length : Int)) = false := decide_eq_false c3
        clear c3
        obtain rfl := Option.some.inj H
        obtain ⟨Ao8, co8, eo8⟩ := Kd.R_slice HO_2.out
        subst eo8
        go_wp2
        go_ret
        exact ⟨_, by first | rfl | (simp [errW_none, errW_some] <;> rfl) | (simp [*, errW_none, errW_some] <;> rfl) | (simp only [isEmpty_ne_, isEmpty_eq_]; rfl) | (simp [*, isEmpty_ne_, isEmpty_eq_]; done), by (with_reducible repeat (first | apply Kd.R_alloc | apply Kd.R_drewN | apply Kd.R_drew)); exact HO_1.out, by repeat (first | (with_reducible first | exact HB.out | apply below_alloc | apply pw_below_drewN | apply below_drew1) | exact HB.out)⟩

/-! ### kauditref03_find: function 84 -/
def kauditref03_find.l0 : Nat → Int → List (S126) → Int → Option (ByteArray × Int × Bool × Bool)
  | 0, _, _, _ => none
  | k + 1, x0, x4, x5 => if x5 < (x4.length : Int) then (if 0 ≤ x5 then (if ((rd_T126 x4 x5).f1) = x0 then (some ((rd_T126 x4 x5).f0, (rd_T126 x4 x5).f1, (rd_T126 x4 x5).f2, true)) else (kauditref03_find.l0 k x0 x4 (wrap64 (x5 + 1)))) else (none)) else (some ((⟨#[]⟩ : ByteArray), 0, false, false))
def kauditref03_find.f (k : Nat) (a0 : Int) : Option (ByteArray × Int × Bool × Bool) := (kauditref03_kinds.f).bind fun t150 => (kauditref03_find.l0 k a0 t150 0)
theorem kauditref03_find.mono_l : ∀ k, (∀ y0 y1 y2, LeO (kauditref03_find.l0 k y0 y1 y2) (kauditref03_find.l0 (k + 1) y0 y1 y2))
  | 0 => fun _ _ _ r h => by simp [kauditref03_find.l0] at h
  | k + 1 => by
    have ih0 := kauditref03_find.mono_l k
    · intro y0 y1 y2
      unfold kauditref03_find.l0
      repeat' first
      | (with_reducible exact ih0 _ _ _)
      | (with_reducible exact LeO.refl _)
      | (with_reducible exact LeO.none _)
      | (with_reducible refine LeO.ite ?_ ?_)
      | (with_reducible refine LeO.bind ?_ (fun _ => ?_))
      | exact ih0 _ _ _
      | exact LeO.none _
      | refine LeO.ite ?_ ?_
      | refine LeO.bind ?_ (fun _ => ?_)
theorem kauditref03_find.mono : ∀ a0 k, LeO (kauditref03_find.f k a0) (kauditref03_find.f (k + 1) a0) := by
  intro a0 k
  have ih0 := kauditref03_find.mono_l k
  unfold kauditref03_find.f
  repeat' first
      | (with_reducible exact ih0 _ _ _)
      | (with_reducible exact LeO.refl _)
      | (with_reducible exact LeO.none _)
      | (with_reducible refine LeO.ite ?_ ?_)
      | (with_reducible refine LeO.bind ?_ (fun _ => ?_))
      | exact ih0 _ _ _
      | exact LeO.none _
      | refine LeO.ite ?_ ?_
      | refine LeO.bind ?_ (fun _ => ?_)
set_option maxHeartbeats 8000000 in
set_option maxRecDepth 100000 in
theorem kauditref03_find.calls (k : Nat) (a0 : Int) (r1 : ByteArray) (r2 : Int) (r3 : Bool) (r4 : Bool) (w : World) (h : kauditref03_find.f k a0 = some (r1, r2, r3, r4)) :
    Calls Tryd.prog 84 #[.int .i64 a0] w fun e w' => e = .returned (.tuple #[.agg #[.string r1, .int .i64 r2, .bool r3], .bool r4]) ∧ Below w.heap.size w w' := by
  have hu126 := Tryd.underlying126
  have HB := Aside0.mk (Below.refl w.heap.size w)
  have H : ((kauditref03_kinds.f).bind fun t150 => (kauditref03_find.l0 k a0 t150 0)) = some (r1, r2, r3, r4) := h
  clear h
  replace H := Option.bind_eq_some_iff.mp H
  obtain ⟨t150, A20, H⟩ := H
  replace H : (kauditref03_find.l0 k a0 t150 0) = some (r1, r2, r3, r4) := H
  have A2 := Aside0.mk A20
  clear A20
  have H' := Aside0.mk H
  clear H
  go_enter Tryd.func84, Tryd.ntmps84
  go_wp2_with (first | ((with_reducible refine gate_dst (N := 2) rfl ?_); refine box_event ?hg (N := 2) ?hd (cs := #[.string (⟨#[]⟩ : ByteArray), .int .i64 0, .bool false]) (t := 126) ?hr ?_; (case hd => rfl); (case hg => rfl); (case hr => first | (go_simp; done) | (go_simp; rfl)); intro gb149 hg w3 hbox hb; have n0_ := Aside0.mk (below_step (by repeat (first | (with_reducible first | exact HB.out | apply below_alloc | apply pw_below_drewN | apply below_drew1) | exact HB.out)) hb); have n1_ := Aside0.mk (hbox); have n2_ := Aside0.mk ((by rw [hg]; exact (below_size (by repeat (first | (with_reducible first | exact HB.out | apply below_alloc | apply pw_below_drewN | apply below_drew1) | exact HB.out))) : w.heap.size ≤ gb149)); have n3_ := Aside0.mk ((by rw [hg]; exact (below_size (by repeat (first | (with_reducible first | exact HB.out | apply below_alloc | apply pw_below_drewN | apply below_drew1) | exact HB.out))) : w.heap.size ≤ gb149)); clear HB; have HB := n0_; have BK149 := n1_; have GW149 := n2_; have GE149 := n3_; clear n0_ n1_ n2_ n3_; clear hb hbox hg) | ((with_reducible refine gate_callee (f := 83) rfl ?_); refine goesL_ (some 6) rfl rfl Tryd.func83 (by kernel_rfl) rfl #[] rfl (by (try simp only [List.map_toArray, List.map_cons, List.map_nil]); first | done | rfl | (simp only [List.length_drop, List.length_take]; rfl)) ?_; (with_reducible refine (kauditref03_kinds.calls  t150 _ A2.out).mono ?_); rintro e w4 ⟨v151, rfl, ho0, hb⟩; refine ⟨_, rfl, ?_⟩; have n0_ := Aside0.mk (Kd.R_lower (Kd.R_newB ho0 (g := gb149) (o := .cells #[.string (⟨#[]⟩ : ByteArray), .int .i64 0, .bool false] 126 (0, 0)) (by (with_reducible repeat (first | refine blk_drewN ?_ _ | refine blk_drew ?_ | refine blk_alloc ?_ _)); exact BK149.out)) (below_size (by repeat (first | (with_reducible first | exact HB.out | apply below_alloc | apply pw_below_drewN | apply below_drew1 | refine below_set ?_ GE149.out) | exact HB.out)))); have n1_ := Aside0.mk (blk_below (g := gb149) (o := .cells #[.string (⟨#[]⟩ : ByteArray), .int .i64 0, .bool false] 126 (0, 0)) (by (with_reducible repeat (first | refine blk_drewN ?_ _ | refine blk_drew ?_ | refine blk_alloc ?_ _)); exact BK149.out) hb); have n2_ := Aside0.mk (below_step (by repeat (first | (with_reducible first | exact HB.out | apply below_alloc | apply pw_below_drewN | apply below_drew1 | refine below_set ?_ GE149.out) | exact HB.out)) hb); clear BK149; clear HB; have HO152 := n0_; have BK149 := n1_; have HB := n2_; clear n0_ n1_ n2_; (try clear hb); (try clear hb2); (try clear hk); (try clear hi); (try clear ho0)))
  go_loopg [5] k (fun kq v5 w' => ∃ (x5_1 : Int) (x150000_1 : ByteArray) (x150001_1 : Int) (x150002_1 : Bool), v5 = .int .i64 x5_1 ∧ Aside0 (kauditref03_find.l0 kq a0 t150 x5_1 = some (r1, r2, r3, r4)) ∧ Aside0 (kq ≤ k) ∧ Aside0 (Kd.R k126 126 w' w.heap.size (fun k_ => k_ ≠ gb149) v151 t150) ∧ Aside0 (w'.heap[gb149]? = some (.cells #[.string x150000_1, .int .i64 x150001_1, .bool x150002_1] 126 (0, 0))) ∧ Aside0 (Below w.heap.size w w'))
  case atStart => exact ⟨(0), ((⟨#[]⟩ : ByteArray)), (0), (false), (by first | rfl | (simp; done) | (simp [*]; done) | (simp only [isEmpty_ne_]; done)), H', ⟨Nat.le_refl _⟩, ⟨by (with_reducible repeat (first | apply Kd.R_alloc | apply Kd.R_drewN | apply Kd.R_drew)); exact Kd.R_mono HO152.out (fun _ hk => hk.2)⟩, ⟨by (with_reducible repeat (first | refine blk_drewN ?_ _ | refine blk_drew ?_ | refine blk_alloc ?_ _)); exact BK149.out⟩, ⟨by repeat (first | (with_reducible first | exact HB.out | apply below_alloc | apply pw_below_drewN | apply below_drew1 | refine below_set ?_ GE149.out) | exact HB.out)⟩⟩
  case round =>
    clear H'
    try clear p2
    obtain ⟨x5_1, x150000_1, x150001_1, x150002_1, rfl, HA, HK1, HO_4, BK149, HB⟩ := hrel
    cases gk with
    | zero => exact absurd HA.out (by simp [kauditref03_find.l0])
    | succ k1 =>
      have H := HA.out
      clear HA
      simp only [kauditref03_find.l0] at H
      by_cases c5 : x5_1 < (t150.length : Int)
      · rw [if_pos c5] at H
        have c5b0 : decide (x5_1 < (t150.length : Int)) = true := decide_eq_true c5
        clear c5
        by_cases c6 : 0 ≤ x5_1
        · rw [if_pos c6] at H
          have c6b0 : decide (0 ≤ x5_1) = true := decide_eq_true c6
          clear c6
          by_cases c7 : ((rd_T126 t150 x5_1).f1) = a0
          · rw [if_pos c7] at H
            have c7b0 : (((rd_T126 t150 x5_1).f1) == a0) = true := beq_iff_eq.mpr c7
            have c7b1 : (((rd_T126 t150 x5_1).f1) != a0) = false := bne_eq_false_iff_eq.mpr c7
            clear c7
            simp only [Option.some.injEq, Prod.mk.injEq] at H
            obtain ⟨rfl, rfl, rfl, rfl⟩ := H
            obtain ⟨Ao8, co8, eo8⟩ := Kd.R_slice HO_4.out
            subst eo8
            have p153 : 0 ≤ (x5_1 : Int) := of_decide_eq_true (by first | (with_reducible assumption) | assumption)
            have q153 : x5_1 < (t150.length : Int) := of_decide_eq_true (by first | (with_reducible assumption) | assumption)
            obtain ⟨ad153, e153, hx153_0, hx153_1, hx153_2⟩ := at_T126 (Kd.R_reads' HO_4.out).2.2 x5_1 p153 q153
            cases e153
            replace p153 := eq_true p153
            replace q153 := eq_true q153
            have p154 : 0 ≤ (x5_1 : Int) := of_decide_eq_true (by first | (with_reducible assumption) | assumption)
            have q154 : x5_1 < (t150.length : Int) := of_decide_eq_true (by first | (with_reducible assumption) | assumption)
            obtain ⟨ad154, e154, hx154_0, hx154_1, hx154_2⟩ := at_T126 (Kd.R_reads' HO_4.out).2.2 x5_1 p154 q154
            obtain rfl : ad153 = ad154 := (by injection e154)
            replace p154 := eq_true p154
            replace q154 := eq_true q154
            have hcz9_0 : wr.cell? ⟨gb149, 0, none⟩ = some (.string x150000_1) := (blk_cell BK149.out 0).trans rfl
            have hcz9_1 : wr.cell? ⟨gb149, 1, none⟩ = some (.int .i64 x150001_1) := (blk_cell BK149.out 1).trans rfl
            have hcz9_2 : wr.cell? ⟨gb149, 2, none⟩ = some (.bool x150002_1) := (blk_cell BK149.out 2).trans rfl
            have hfz9_0 := blk_frozen BK149.out 0
            have hfz9_1 := blk_frozen BK149.out 1
            have hfz9_2 := blk_frozen BK149.out 2
            go_wp2
            refine bodyPost_ret (results_ct rfl _ _ gb149 126 #[.string ((rd_T126 t150 x5_1).f0), .int .i64 ((rd_T126 t150 x5_1).f1), .bool ((rd_T126 t150 x5_1).f2)] (0, 0) _ rfl (by (with_reducible repeat (first | refine blk_drewN ?_ _ | refine blk_drew ?_ | refine blk_alloc ?_ _)); refine blk_put (cs := #[.string ((rd_T126 t150 x5_1).f0), .int .i64 ((rd_T126 t150 x5_1).f1), .bool x150002_1]) ?_ 2 _ rfl; (with_reducible repeat (first | refine blk_drewN ?_ _ | refine blk_drew ?_ | refine blk_alloc ?_ _)); refine blk_put (cs := #[.string ((rd_T126 t150 x5_1).f0), .int .i64 x150001_1, .bool x150002_1]) ?_ 1 _ rfl; (with_reducible repeat (first | refine blk_drewN ?_ _ | refine blk_drew ?_ | refine blk_alloc ?_ _)); refine blk_put (cs := #[.string x150000_1, .int .i64 x150001_1, .bool x150002_1]) ?_ 0 _ rfl; (with_reducible repeat (first | refine blk_drewN ?_ _ | refine blk_drew ?_ | refine blk_alloc ?_ _)); exact BK149.out) Tryd.underlying126 rfl (by kernel_rfl)) rfl ?_
            exact ⟨by first | rfl | (simp [errW_none, errW_some] <;> rfl) | (simp [*, errW_none, errW_some] <;> rfl) | (simp only [isEmpty_ne_, isEmpty_eq_]; rfl) | (simp [*, isEmpty_ne_, isEmpty_eq_]; done), by repeat (first | (with_reducible first | exact HB.out | apply below_alloc | apply pw_below_drewN | apply below_drew1 | refine below_set ?_ GE149.out) | exact HB.out)⟩
          · rw [if_neg c7] at H
            have c7b0 : (((rd_T126 t150 x5_1).f1) == a0) = false := beq_eq_false_iff_ne.mpr c7
            have c7b1 : (((rd_T126 t150 x5_1).f1) != a0) = true := bne_iff_ne.mpr c7
            have H' := Aside0.mk H
            clear H
            obtain ⟨Ao10, co10, eo10⟩ := Kd.R_slice HO_4.out
            subst eo10
            have p153 : 0 ≤ (x5_1 : Int) := of_decide_eq_true (by first | (with_reducible assumption) | assumption)
            have q153 : x5_1 < (t150.length : Int) := of_decide_eq_true (by first | (with_reducible assumption) | assumption)
            obtain ⟨ad153, e153, hx153_0, hx153_1, hx153_2⟩ := at_T126 (Kd.R_reads' HO_4.out).2.2 x5_1 p153 q153
            cases e153
            replace p153 := eq_true p153
            replace q153 := eq_true q153
            go_wp2
            go_roundg k1
            case measure => have := HK1.out; omega
            case rel => exact ⟨(wrap64 (x5_1 + 1)), (x150000_1), (x150001_1), (x150002_1), (by first | rfl | (simp; done) | (simp [*]; done) | (simp only [isEmpty_ne_]; done)), H', ⟨by have := HK1.out; omega⟩, ⟨by (with_reducible repeat (first | apply Kd.R_alloc | apply Kd.R_drewN | apply Kd.R_drew)); exact HO_4.out⟩, ⟨by (with_reducible repeat (first | refine blk_drewN ?_ _ | refine blk_drew ?_ | refine blk_alloc ?_ _)); exact BK149.out⟩, ⟨by repeat (first | (with_reducible first | exact HB.out | apply below_alloc | apply pw_below_drewN | apply below_drew1 | refine below_set ?_ GE149.out) | exact HB.out)⟩⟩
        · rw [if_neg c6] at H
          exact absurd H (by simp)
      · rw [if_neg c5] at H
        have c5b0 : decide (x5_1 < (t150.length : Int)) = false := decide_eq_false c5
        clear c5
        simp only [Option.some.injEq, Prod.mk.injEq] at H
        obtain ⟨rfl, rfl, rfl, rfl⟩ := H
        obtain ⟨Ao11, co11, eo11⟩ := Kd.R_slice HO_4.out
        subst eo11
        have hcz12_0 : wr.cell? ⟨gb149, 0, none⟩ = some (.string x150000_1) := (blk_cell BK149.out 0).trans rfl
        have hcz12_1 : wr.cell? ⟨gb149, 1, none⟩ = some (.int .i64 x150001_1) := (blk_cell BK149.out 1).trans rfl
        have hcz12_2 : wr.cell? ⟨gb149, 2, none⟩ = some (.bool x150002_1) := (blk_cell BK149.out 2).trans rfl
        have hfz12_0 := blk_frozen BK149.out 0
        have hfz12_1 := blk_frozen BK149.out 1
        have hfz12_2 := blk_frozen BK149.out 2
        go_wp2
        refine bodyPost_ret (results_ct rfl _ _ gb149 126 #[.string (⟨#[]⟩ : ByteArray), .int .i64 0, .bool false] (0, 0) _ rfl (by (with_reducible repeat (first | refine blk_drewN ?_ _ | refine blk_drew ?_ | refine blk_alloc ?_ _)); refine blk_put (cs := #[.string (⟨#[]⟩ : ByteArray), .int .i64 0, .bool x150002_1]) ?_ 2 _ rfl; (with_reducible repeat (first | refine blk_drewN ?_ _ | refine blk_drew ?_ | refine blk_alloc ?_ _)); refine blk_put (cs := #[.string (⟨#[]⟩ : ByteArray), .int .i64 x150001_1, .bool x150002_1]) ?_ 1 _ rfl; (with_reducible repeat (first | refine blk_drewN ?_ _ | refine blk_drew ?_ | refine blk_alloc ?_ _)); refine blk_put (cs := #[.string x150000_1, .int .i64 x150001_1, .bool x150002_1]) ?_ 0 _ rfl; (with_reducible repeat (first | refine blk_drewN ?_ _ | refine blk_drew ?_ | refine blk_alloc ?_ _)); exact BK149.out) Tryd.underlying126 rfl (by kernel_rfl)) rfl ?_
        exact ⟨by first | rfl | (simp [errW_none, errW_some] <;> rfl) | (simp [*, errW_none, errW_some] <;> rfl) | (simp only [isEmpty_ne_, isEmpty_eq_]; rfl) | (simp [*, isEmpty_ne_, isEmpty_eq_]; done), by repeat (first | (with_reducible first | exact HB.out | apply below_alloc | apply pw_below_drewN | apply below_drew1 | refine below_set ?_ GE149.out) | exact HB.out)⟩

/-! ### kauditref03_Name: function 43 -/
def kauditref03_Name.f (k : Nat) (a0 : Int) : Option (ByteArray) := (kauditref03_find.f k a0).bind fun bt155 => (some bt155.1)
theorem kauditref03_Name.mono : ∀ a0 k, LeO (kauditref03_Name.f k a0) (kauditref03_Name.f (k + 1) a0) := by
  intro a0 k
  unfold kauditref03_Name.f
  repeat' first
      | (with_reducible exact kauditref03_find.mono _ _)
      | (with_reducible exact LeO.refl _)
      | (with_reducible exact LeO.none _)
      | (with_reducible refine LeO.ite ?_ ?_)
      | (with_reducible refine LeO.bind ?_ (fun _ => ?_))
      | exact kauditref03_find.mono _ _
      | exact LeO.none _
      | refine LeO.ite ?_ ?_
      | refine LeO.bind ?_ (fun _ => ?_)
set_option maxHeartbeats 8000000 in
set_option maxRecDepth 100000 in
theorem kauditref03_Name.calls (k : Nat) (a0 : Int) (r : ByteArray) (w : World) (h : kauditref03_Name.f k a0 = some r) :
    Calls Tryd.prog 43 #[.int .i64 a0] w fun e w' => e = .returned (.string r) ∧ Below w.heap.size w w' := by
  have hu126 := Tryd.underlying126
  have HB := Aside0.mk (Below.refl w.heap.size w)
  have H : ((kauditref03_find.f k a0).bind fun bt155 => (some bt155.1)) = some r := h
  clear h
  replace H := Option.bind_eq_some_iff.mp H
  obtain ⟨⟨t155, t156, t157, t158⟩, A20, H⟩ := H
  replace H : (some t155) = some r := H
  have A2 := Aside0.mk A20
  clear A20
  obtain rfl := Option.some.inj H
  go_enter Tryd.func43, Tryd.ntmps43
  go_wp2_with (first | ((with_reducible refine gate_callee (f := 84) rfl ?_); refine goesL_ (some 7) rfl rfl Tryd.func84 (by kernel_rfl) rfl #[.int .i64 a0] rfl (by (try simp only [List.map_toArray, List.map_cons, List.map_nil]); first | done | rfl | (simp only [List.length_drop, List.length_take]; rfl)) ?_; (with_reducible refine (kauditref03_find.calls k a0 t155 t156 t157 t158 _ A2.out).mono ?_); rintro e w3 ⟨rfl, hb⟩; refine ⟨_, rfl, ?_⟩; have n0_ := Aside0.mk (below_step (by repeat (first | (with_reducible first | exact HB.out | apply below_alloc | apply pw_below_drewN | apply below_drew1) | exact HB.out)) hb); clear HB; have HB := n0_; clear n0_; (try clear hb); (try clear hb2); (try clear hk); (try clear hi)) | ((with_reducible refine gate_dst (N := 3) rfl ?_); refine box_event ?hg (N := 3) ?hd (cs := #[.string (⟨#[]⟩ : ByteArray), .int .i64 0, .bool false]) (t := 126) ?hr ?_; (case hd => rfl); (case hg => rfl); (case hr => first | (go_simp; done) | (go_simp; rfl)); intro gb159 hg w4 hbox hb; have n0_ := Aside0.mk (below_step (by repeat (first | (with_reducible first | exact HB.out | apply below_alloc | apply pw_below_drewN | apply below_drew1) | exact HB.out)) hb); have n1_ := Aside0.mk (hbox); have n2_ := Aside0.mk ((by rw [hg]; exact (below_size (by repeat (first | (with_reducible first | exact HB.out | apply below_alloc | apply pw_below_drewN | apply below_drew1) | exact HB.out))) : w.heap.size ≤ gb159)); have n3_ := Aside0.mk ((by rw [hg]; exact (below_size (by repeat (first | (with_reducible first | exact HB.out | apply below_alloc | apply pw_below_drewN | apply below_drew1) | exact HB.out))) : w.heap.size ≤ gb159)); clear HB; have HB := n0_; have BK159 := n1_; have GW159 := n2_; have GE159 := n3_; clear n0_ n1_ n2_ n3_; clear hb hbox hg; have hcz5_0 : w4.cell? ⟨gb159, 0, none⟩ = some (.string (⟨#[]⟩ : ByteArray)) := (blk_cell BK159.out 0).trans rfl; have hcz5_1 : w4.cell? ⟨gb159, 1, none⟩ = some (.int .i64 0) := (blk_cell BK159.out 1).trans rfl; have hcz5_2 : w4.cell? ⟨gb159, 2, none⟩ = some (.bool false) := (blk_cell BK159.out 2).trans rfl; have hfz5_0 := blk_frozen BK159.out 0; have hfz5_1 := blk_frozen BK159.out 1; have hfz5_2 := blk_frozen BK159.out 2))
  go_ret
  exact ⟨by first | rfl | (simp [errW_none, errW_some] <;> rfl) | (simp [*, errW_none, errW_some] <;> rfl) | (simp only [isEmpty_ne_, isEmpty_eq_]; rfl) | (simp [*, isEmpty_ne_, isEmpty_eq_]; done), by repeat (first | (with_reducible first | exact HB.out | apply below_alloc | apply pw_below_drewN | apply below_drew1 | refine below_set ?_ GE159.out) | exact HB.out)⟩

end Go.Proofs.YtjnlmmjadlidlaaDoor.PRec
