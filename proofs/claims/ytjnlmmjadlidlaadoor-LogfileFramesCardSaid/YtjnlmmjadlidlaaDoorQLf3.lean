/-
  A part of the proof of this: LogfileFrames holds for every input: frames and heads are the same bytes as the reference says, or the same error; no condition.
-/
import Derived.OpenShut
import Derived.Lib.QuoteBits
import Derived.Lib.VarintBits
import Derived.Test.YtjnlmmjadlidlaaDoorQLf2
section
namespace Go.Proofs.YtjnlmmjadlidlaaDoor.PRec
open Go.RowKit Go.Proofs.YtjnlmmjadlidlaaDoorW.PrintWords Go.Proofs.YtjnlmmjadlidlaaDoorW.PrintLast Go.Proofs.YtjnlmmjadlidlaaDoorW.PrintMore
attribute [local go_sem] max2_int min2_int max_two min_two max_three min_three max_four min_four
set_option linter.unusedVariables false
set_option linter.unusedSimpArgs false
def kauditref25_Put.l0 : Nat → List Int → Int → Option (List Int)
  | 0, _, _ => none
  | k + 1, x0, x1 => if x1 ≥ 128 then (if x0.length < 140737488355328 then (kauditref25_Put.l0 k (x0 ++ [(((Int.tmod x1 128) % 256) + 128) % 256]) (wrap64 (Int.tdiv x1 128))) else (none)) else (if x0.length < 140737488355328 then (some (x0 ++ [(x1) % 256])) else (none))
def kauditref25_Put.f (k : Nat) (l0 : List Int) (a1 : Int) : Option (List Int) := kauditref25_Put.l0 k l0 a1
theorem kauditref25_Put.mono_l : ∀ k, (∀ y0 y1, LeO (kauditref25_Put.l0 k y0 y1) (kauditref25_Put.l0 (k + 1) y0 y1))
  | 0 => fun _ _ r h => by simp [kauditref25_Put.l0] at h
  | k + 1 => by
    have ih0 := kauditref25_Put.mono_l k
    · intro y0 y1
      unfold kauditref25_Put.l0
      repeat' first
      | (with_reducible exact ih0 _ _)
      | (with_reducible exact LeO.refl _)
      | (with_reducible exact LeO.none _)
      | (with_reducible refine LeO.ite ?_ ?_)
      | (with_reducible refine LeO.bind ?_ (fun _ => ?_))
      | exact ih0 _ _
      | exact LeO.none _
      | refine LeO.ite ?_ ?_
      | refine LeO.bind ?_ (fun _ => ?_)
theorem kauditref25_Put.mono : ∀ a0 a1 k, LeO (kauditref25_Put.f k a0 a1) (kauditref25_Put.f (k + 1) a0 a1) := by
  intro a0 a1 k
  have ih0 := kauditref25_Put.mono_l k
  unfold kauditref25_Put.f
  repeat' first
      | (with_reducible exact ih0 _ _)
      | (with_reducible exact LeO.refl _)
      | (with_reducible exact LeO.none _)
      | (with_reducible refine LeO.ite ?_ ?_)
      | (with_reducible refine LeO.bind ?_ (fun _ => ?_))
      | exact ih0 _ _
      | exact LeO.none _
      | refine LeO.ite ?_ ?_
      | refine LeO.bind ?_ (fun _ => ?_)
theorem nums_longer : ∀ k, (∀ x0 x7 x8 x9 r, logfile_appendNumbers.l0 k x0 x7 x8 x9 = some r → x0.length ≤ r.length) ∧ (∀ x0 x6 x7 x8 x9 r, logfile_appendNumbers.l1 k x0 x6 x7 x8 x9 = some r → x0.length + 1 ≤ r.length) := by
  intro k
  induction k with
  | zero => exact ⟨fun _ _ _ _ _ h => by simp [logfile_appendNumbers.l0] at h, fun _ _ _ _ _ _ h => by simp [logfile_appendNumbers.l1] at h⟩
  | succ k ih =>
    refine ⟨fun x0 x7 x8 x9 r h => ?_, fun x0 x6 x7 x8 x9 r h => ?_⟩
    · simp only [logfile_appendNumbers.l0] at h
      split at h
      · split at h
        · split at h
          · have := ih.2 _ _ _ _ _ _ h; omega
          · cases h
        · cases h
      · cases h; exact Nat.le_refl _
    · simp only [logfile_appendNumbers.l1] at h
      split at h
      · split at h
        · have := ih.2 _ _ _ _ _ _ h
          rw [List.length_append] at this
          omega
        · cases h
      · split at h
        · have := ih.1 _ _ _ _ _ h
          rw [List.length_append] at this
          simp only [List.length_cons, List.length_nil] at this
          omega
        · cases h
theorem nums_ne (k : Nat) (n : Int) (r : List Int) (h : logfile_appendNumbers.f k magicL [n] = some r) : r ≠ magicL := by
  rintro rfl
  unfold logfile_appendNumbers.f at h
  cases k with
  | zero => simp [logfile_appendNumbers.l0] at h
  | succ k =>
    simp only [logfile_appendNumbers.l0] at h
    rw [if_pos (by simp), if_pos (by simp), if_pos (by simp)] at h
    have := (nums_longer k).2 _ _ _ _ _ _ h
    omega
theorem put_longer : ∀ k x0 x1 r, kauditref25_Put.l0 k x0 x1 = some r → x0.length + 1 ≤ r.length := by
  intro k
  induction k with
  | zero => intro _ _ _ h; simp [kauditref25_Put.l0] at h
  | succ k ih =>
    intro x0 x1 r h
    simp only [kauditref25_Put.l0] at h
    split at h
    · split at h
      · have := ih _ _ _ h
        rw [List.length_append] at this
        omega
      · cases h
    · split at h
      · cases h
        rw [List.length_append]
        simp
      · cases h
theorem put_ne (k : Nat) (n : Int) (r : List Int) (h : kauditref25_Put.f k magicL n = some r) : r ≠ magicL := by
  rintro rfl
  have := put_longer k _ _ _ h
  omega
set_option maxHeartbeats 8000000 in
set_option maxRecDepth 100000 in
theorem logfile_appendNumbers.callsM (k : Nat) (P0_ : Nat → Prop) (u9000_ : Value) (l0 : List Int) (A1 : Option Addr) (c1 : Nat) (l1 : List Int) (r : List Int) (w0 w : World) (hB : Below w0.heap.size w0 w) (ho0 : RM w w0.heap.size P0_ u9000_ l0) (hr1 : ∀ W_, Kept w W_ (fun k_ => P0_ k_) → Kd.C (Kd.int .i64) W_ A1 l1.length l1) (hc1 : l1.length ≤ c1) (h : logfile_appendNumbers.f k l0 l1 = some r) :
    Calls Tryd.prog 89 #[u9000_, .slice A1 l1.length c1] w fun e w' => ∃ v0_ : Value, e = .returned (v0_) ∧ RM w' w0.heap.size (fun k_ => (P0_ k_ ∨ w.heap.size ≤ k_)) v0_ r ∧ Below w0.heap.size w0 w' ∧ Kept w w' (fun k_ => P0_ k_) := by
  have HO0 := Aside0.mk (show RM w w0.heap.size (fun k_ => (P0_ k_ ∨ w.heap.size ≤ k_)) u9000_ l0 from RM_mono ho0 (fun k_ hk => (.inl hk)))
  have HR1 := Aside0.mk hr1
  have HC1 := Aside0.mk hc1
  clear hr1 hc1
  have HK := Aside0.mk (Kept.refl w (fun k_ => P0_ k_))
  have HW0 := Aside0.mk hB.size
  have HB := Aside0.mk hB
  clear hB
  have H : (logfile_appendNumbers.l0 k l0 l1 (l1.length : Int) 0) = some r := h
  clear h
  have H' := Aside0.mk H
  clear H
  go_enter Tryd.func89, Tryd.ntmps89
  go_wp2
  go_loopg [0, 9] k (fun kq v0 v9 w' => ∃ (x0_1 : List Int) (x9_1 : Int), v9 = .int .i64 x9_1 ∧ Aside0 (logfile_appendNumbers.l0 kq x0_1 l1 (l1.length : Int) x9_1 = some r) ∧ Aside0 (kq ≤ k) ∧ Aside0 (RM w' w0.heap.size (fun k_ => (P0_ k_ ∨ w.heap.size ≤ k_)) v0 x0_1) ∧ Aside0 (Kept w w' (fun k_ => P0_ k_)) ∧ Aside0 (Below w0.heap.size w0 w'))
  case atStart => exact ⟨(l0), (0), (by first | rfl | (simp; done) | (simp [*]; done) | (simp only [isEmpty_ne_]; done)), H', ⟨Nat.le_refl _⟩, ⟨by (with_reducible repeat (first | apply RM_alloc | apply RM_drewN | apply RM_drew)); exact HO0.out⟩, ⟨by repeat (first | (with_reducible first | exact HK.out | apply Kept.alloc | apply Kept.drewN | apply Kept.drew) | exact HK.out)⟩, ⟨by repeat (first | (with_reducible first | exact HB.out | apply below_alloc | apply pw_below_drewN | apply below_drew1) | exact HB.out)⟩⟩
  case round =>
    clear H'
    try clear c1
    try clear p2
    obtain ⟨x0_1, x9_1, rfl, HA, HK1, HO_0, HK, HB⟩ := hrel
    cases gk with
    | zero => exact absurd HA.out (by simp [logfile_appendNumbers.l0])
    | succ k1 =>
      have H := HA.out
      clear HA
      simp only [logfile_appendNumbers.l0] at H
      by_cases c3 : x9_1 < (l1.length : Int)
      · rw [if_pos c3] at H
        have c3b0 : decide (x9_1 < (l1.length : Int)) = true := decide_eq_true c3
        clear c3
        by_cases c4 : 0 ≤ x9_1
        · rw [if_pos c4] at H
          have c4b0 : decide (0 ≤ x9_1) = true := decide_eq_true c4
          clear c4
          by_cases c5 : x9_1 < (l1.length : Int)
          · rw [if_pos c5] at H
            have c5b0 : decide (x9_1 < (l1.length : Int)) = true := decide_eq_true c5
            clear c5
            have H' := Aside0.mk H
            clear H
            have p502 : 0 ≤ (x9_1 : Int) := of_decide_eq_true (by first | (with_reducible assumption) | assumption)
            have q502 : x9_1 < (l1.length : Int) := of_decide_eq_true (by first | (with_reducible assumption) | assumption)
            obtain ⟨ad502, e502, hx502_0⟩ := Kd.at_int (Kd.C_kept_now HR1.out HK.out) x9_1 p502 q502
            cases e502
            replace p502 := eq_true p502
            replace q502 := eq_true q502
            go_wp2
            go_loopg [0, 6] k1 (fun kq v0 v6 w' => ∃ (x0_2 : List Int) (x6_2 : Int), v6 = .int .i64 x6_2 ∧ Aside0 (logfile_appendNumbers.l1 kq x0_2 x6_2 l1 (l1.length : Int) x9_1 = some r) ∧ Aside0 (kq ≤ k1) ∧ Aside0 (RM w' w0.heap.size (fun k_ => (P0_ k_ ∨ w.heap.size ≤ k_)) v0 x0_2) ∧ Aside0 (Kept w w' (fun k_ => P0_ k_)) ∧ Aside0 (Below w0.heap.size w0 w'))
            case atStart => exact ⟨(x0_1), (rd l1 x9_1), (by first | rfl | (simp; done) | (simp [*]; done) | (simp only [isEmpty_ne_]; done)), H', ⟨Nat.le_refl _⟩, ⟨by (with_reducible repeat (first | apply RM_alloc | apply RM_drewN | apply RM_drew)); exact HO_0.out⟩, ⟨by repeat (first | (with_reducible first | exact HK.out | apply Kept.alloc | apply Kept.drewN | apply Kept.drew) | exact HK.out)⟩, ⟨by repeat (first | (with_reducible first | exact HB.out | apply below_alloc | apply pw_below_drewN | apply below_drew1) | exact HB.out)⟩⟩
            case round =>
              clear H'
              try clear c1
              try clear p2
              try clear c3
              try clear c3b0
              try clear c4
              try clear c4b0
              try clear c5
              try clear c5b0
              try clear p5
              try clear q5
              try clear hx5
              try clear hx502_0
              try clear p2
              try clear p502
              try clear q502
              obtain ⟨x0_2, x6_2, rfl, HA, HK2, HO_0, HK, HB⟩ := hrel
              cases gk with
              | zero => exact absurd HA.out (by simp [logfile_appendNumbers.l1])
              | succ k2 =>
                have H := HA.out
                clear HA
                simp only [logfile_appendNumbers.l1] at H
                by_cases c6 : x6_2 > 127
                · rw [if_pos c6] at H
                  have c6b0 : decide (127 < x6_2) = true := decide_eq_true c6
                  clear c6
                  by_cases c7 : x0_2.length < 140737488355328
                  · rw [if_pos c7] at H
                    have LMc7 := Aside0.mk c7
                    clear c7
                    obtain ⟨y503, hy503⟩ : ∃ y_ : List Int, y_ = (x0_2 ++ [(Go.bits .or .i64 (Go.bits .and .i64 x6_2 127) 128) % 256]) := ⟨_, rfl⟩
                    replace H : (logfile_appendNumbers.l1 k2 y503 (x6_2 / 128) l1 (l1.length : Int) x9_1) = some r := by first | (rw [hy503]; with_reducible exact H) | (have H2_ := (Option.bind_some _ _).symm.trans H; rw [hy503]; with_reducible exact H2_) | (have H2_ := (Option.bind_some _ _).symm.trans H; with_reducible exact H2_) | with_reducible exact H | (rw [hy503]; exact H) | exact H
                    have Ny503 := Aside0.mk hy503
                    clear hy503
                    have H' := Aside0.mk H
                    clear H
                    go_wp2_with (first | ((with_reducible refine gate_builtin (b := .append) (xs := #[.tmp 17, .tmp 22]) rfl ?_); at_builtin; refine RM_append (w0 := w0) w0.heap.size rfl (.tmp 17) (.tmp 22) 22 5 (.int .u8 0) 1 rfl Tryd.underlying22 info5 rfl (by decide) (by omega) u0 x0_2 ((Go.bits .or .i64 (Go.bits .and .i64 x6_2 127) 128) % 256) [.int .u8 ((Go.bits .or .i64 (Go.bits .and .i64 x6_2 127) 128) % 256)] (fun k_ => (P0_ k_ ∨ w.heap.size ≤ k_)) (fun _ => False) rfl rfl ?aP (fun _ hk => hk.elim) ?aF ?aO ?aB ?aS ?aL ?_; (case aP => exact rfl); (case aB => exact (by repeat (first | (with_reducible first | exact HB.out | apply below_alloc | apply pw_below_drewN | apply below_drew1) | exact HB.out))); (case aF => exact (fun k_ hk => (.inr (Nat.le_trans (by first | exact HK.out.1 | exact (show Kept w _ (fun k_ => P0_ k_) from by repeat (first | (with_reducible first | exact HK.out | apply Kept.alloc | apply Kept.drewN | apply Kept.drew) | exact HK.out)).1) hk)))); (case aO => exact (by (with_reducible repeat (first | apply RM_alloc | apply RM_drewN | apply RM_drew)); exact HO_0.out)); (case aS => exact (below_size (by repeat (first | (with_reducible first | exact HB.out | apply below_alloc | apply pw_below_drewN | apply below_drew1) | exact HB.out)))); (case aL => have := LMc7.out; omega); intro v504 w8 ho hb hg hat; rw [← Ny503.out] at ho; have n0_ := Aside0.mk (hb); have n1_ := Aside0.mk (Kept.of_grown (S := (fun k_ => P0_ k_)) hg (by repeat (first | (with_reducible first | exact HK.out | apply Kept.alloc | apply Kept.drewN | apply Kept.drew) | exact HK.out)) (fun k_ e_ => (RM_own HO_0.out k_ e_))); have n2_ := Aside0.mk (ho); clear HB; clear HK; clear HO_0; have HB := n0_; have HK := n1_; have HO505 := n2_; clear n0_ n1_ n2_; clear ho hb hg hat))
                    go_roundg k2
                    case measure => have := HK1.out; have := HK2.out; omega
                    case rel => exact ⟨(y503), (x6_2 / 128), (by first | rfl | (simp; done) | (simp [*]; done) | (simp only [isEmpty_ne_]; done)), H', ⟨by have := HK1.out; have := HK2.out; omega⟩, ⟨by (with_reducible repeat (first | apply RM_alloc | apply RM_drewN | apply RM_drew)); exact HO505.out⟩, ⟨by repeat (first | (with_reducible first | exact HK.out | apply Kept.alloc | apply Kept.drewN | apply Kept.drew) | exact HK.out)⟩, ⟨by repeat (first | (with_reducible first | exact HB.out | apply below_alloc | apply pw_below_drewN | apply below_drew1) | exact HB.out)⟩⟩
                  · rw [if_neg c7] at H
                    exact absurd H (by simp)
                · rw [if_neg c6] at H
                  have c6b0 : decide (127 < x6_2) = false := decide_eq_false c6
                  clear c6
                  by_cases c9 : x0_2.length < 140737488355328
                  · rw [if_pos c9] at H
                    have LMc9 := Aside0.mk c9
                    clear c9
                    obtain ⟨y506, hy506⟩ : ∃ y_ : List Int, y_ = (x0_2 ++ [(x6_2) % 256]) := ⟨_, rfl⟩
                    replace H : (logfile_appendNumbers.l0 k2 y506 l1 (l1.length : Int) (wrap64 (x9_1 + 1))) = some r := by first | (rw [hy506]; with_reducible exact H) | (have H2_ := (Option.bind_some _ _).symm.trans H; rw [hy506]; with_reducible exact H2_) | (have H2_ := (Option.bind_some _ _).symm.trans H; with_reducible exact H2_) | with_reducible exact H | (rw [hy506]; exact H) | exact H
                    have Ny506 := Aside0.mk hy506
                    clear hy506
                    have H' := Aside0.mk H
                    clear H
                    go_wp2_with (first | ((with_reducible refine gate_builtin (b := .append) (xs := #[.tmp 24, .tmp 27]) rfl ?_); at_builtin; refine RM_append (w0 := w0) w0.heap.size rfl (.tmp 24) (.tmp 27) 22 5 (.int .u8 0) 1 rfl Tryd.underlying22 info5 rfl (by decide) (by omega) u0 x0_2 ((x6_2) % 256) [.int .u8 ((x6_2) % 256)] (fun k_ => (P0_ k_ ∨ w.heap.size ≤ k_)) (fun _ => False) rfl rfl ?aP (fun _ hk => hk.elim) ?aF ?aO ?aB ?aS ?aL ?_; (case aP => exact rfl); (case aB => exact (by repeat (first | (with_reducible first | exact HB.out | apply below_alloc | apply pw_below_drewN | apply below_drew1) | exact HB.out))); (case aF => exact (fun k_ hk => (.inr (Nat.le_trans (by first | exact HK.out.1 | exact (show Kept w _ (fun k_ => P0_ k_) from by repeat (first | (with_reducible first | exact HK.out | apply Kept.alloc | apply Kept.drewN | apply Kept.drew) | exact HK.out)).1) hk)))); (case aO => exact (by (with_reducible repeat (first | apply RM_alloc | apply RM_drewN | apply RM_drew)); exact HO_0.out)); (case aS => exact (below_size (by repeat (first | (with_reducible first | exact HB.out | apply below_alloc | apply pw_below_drewN | apply below_drew1) | exact HB.out)))); (case aL => have := LMc9.out; omega); intro v507 w10 ho hb hg hat; rw [← Ny506.out] at ho; have n0_ := Aside0.mk (hb); have n1_ := Aside0.mk (Kept.of_grown (S := (fun k_ => P0_ k_)) hg (by repeat (first | (with_reducible first | exact HK.out | apply Kept.alloc | apply Kept.drewN | apply Kept.drew) | exact HK.out)) (fun k_ e_ => (RM_own HO_0.out k_ e_))); have n2_ := Aside0.mk (ho); clear HB; clear HK; clear HO_0; have HB := n0_; have HK := n1_; have HO508 := n2_; clear n0_ n1_ n2_; clear ho hb hg hat))
                    go_roundg k2
                    case measure => have := HK1.out; have := HK2.out; omega
                    case rel => exact ⟨(y506), (wrap64 (x9_1 + 1)), (by first | rfl | (simp; done) | (simp [*]; done) | (simp only [isEmpty_ne_]; done)), H', ⟨by have := HK1.out; have := HK2.out; omega⟩, ⟨by (with_reducible repeat (first | apply RM_alloc | apply RM_drewN | apply RM_drew)); exact HO508.out⟩, ⟨by repeat (first | (with_reducible first | exact HK.out | apply Kept.alloc | apply Kept.drewN | apply Kept.drew) | exact HK.out)⟩, ⟨by repeat (first | (with_reducible first | exact HB.out | apply below_alloc | apply pw_below_drewN | apply below_drew1) | exact HB.out)⟩⟩
                  · rw [if_neg c9] at H
                    exact absurd H (by simp)
          · rw [if_neg c5] at H
            exact absurd H (by simp)
        · rw [if_neg c4] at H
          exact absurd H (by simp)
      · rw [if_neg c3] at H
        have c3b0 : decide (x9_1 < (l1.length : Int)) = false := decide_eq_false c3
        clear c3
        obtain rfl := Option.some.inj H
        go_wp2
        go_ret
        exact ⟨_, by first | rfl | (simp [errW_none, errW_some] <;> rfl) | (simp [*, errW_none, errW_some] <;> rfl) | (simp only [isEmpty_ne_, isEmpty_eq_]; rfl) | (simp [*, isEmpty_ne_, isEmpty_eq_]; done), by (with_reducible repeat (first | apply RM_alloc | apply RM_drewN | apply RM_drew)); exact HO_0.out, by repeat (first | (with_reducible first | exact HB.out | apply below_alloc | apply pw_below_drewN | apply below_drew1) | exact HB.out), by repeat (first | (with_reducible first | exact HK.out | apply Kept.alloc | apply Kept.drewN | apply Kept.drew) | exact HK.out)⟩
set_option maxHeartbeats 8000000 in
set_option maxRecDepth 100000 in
theorem kauditref25_Put.callsM (k : Nat) (P0_ : Nat → Prop) (u9000_ : Value) (l0 : List Int) (a1 : Int) (r : List Int) (w0 w : World) (hB : Below w0.heap.size w0 w) (ho0 : RM w w0.heap.size P0_ u9000_ l0) (h : kauditref25_Put.f k l0 a1 = some r) :
    Calls Tryd.prog 90 #[u9000_, .int .i64 a1] w fun e w' => ∃ v0_ : Value, e = .returned (v0_) ∧ RM w' w0.heap.size (fun k_ => (P0_ k_ ∨ w.heap.size ≤ k_)) v0_ r ∧ Below w0.heap.size w0 w' ∧ Kept w w' (fun k_ => P0_ k_) := by
  have HO0 := Aside0.mk (show RM w w0.heap.size (fun k_ => (P0_ k_ ∨ w.heap.size ≤ k_)) u9000_ l0 from RM_mono ho0 (fun k_ hk => (.inl hk)))
  have HK := Aside0.mk (Kept.refl w (fun k_ => P0_ k_))
  have HW0 := Aside0.mk hB.size
  have HB := Aside0.mk hB
  clear hB
  have H : (kauditref25_Put.l0 k l0 a1) = some r := h
  clear h
  have H' := Aside0.mk H
  clear H
  go_enter Tryd.func90, Tryd.ntmps90
  go_wp2
  go_loopg [0, 1] k (fun kq v0 v1 w' => ∃ (x0_1 : List Int) (x1_1 : Int), v1 = .int .i64 x1_1 ∧ Aside0 (kauditref25_Put.l0 kq x0_1 x1_1 = some r) ∧ Aside0 (kq ≤ k) ∧ Aside0 (RM w' w0.heap.size (fun k_ => (P0_ k_ ∨ w.heap.size ≤ k_)) v0 x0_1) ∧ Aside0 (Kept w w' (fun k_ => P0_ k_)) ∧ Aside0 (Below w0.heap.size w0 w'))
  case atStart => exact ⟨(l0), (a1), (by first | rfl | (simp; done) | (simp [*]; done) | (simp only [isEmpty_ne_]; done)), H', ⟨Nat.le_refl _⟩, ⟨by (with_reducible repeat (first | apply RM_alloc | apply RM_drewN | apply RM_drew)); exact HO0.out⟩, ⟨by repeat (first | (with_reducible first | exact HK.out | apply Kept.alloc | apply Kept.drewN | apply Kept.drew) | exact HK.out)⟩, ⟨by repeat (first | (with_reducible first | exact HB.out | apply below_alloc | apply pw_below_drewN | apply below_drew1) | exact HB.out)⟩⟩
  case round =>
    clear H'
    try clear p2
    obtain ⟨x0_1, x1_1, rfl, HA, HK1, HO_0, HK, HB⟩ := hrel
    cases gk with
    | zero => exact absurd HA.out (by simp [kauditref25_Put.l0])
    | succ k1 =>
      have H := HA.out
      clear HA
      simp only [kauditref25_Put.l0] at H
      by_cases c3 : x1_1 ≥ 128
      · rw [if_pos c3] at H
        have c3b0 : decide (128 ≤ x1_1) = true := decide_eq_true c3
        clear c3
        by_cases c4 : x0_1.length < 140737488355328
        · rw [if_pos c4] at H
          have LMc4 := Aside0.mk c4
          clear c4
          obtain ⟨y530, hy530⟩ : ∃ y_ : List Int, y_ = (x0_1 ++ [(((Int.tmod x1_1 128) % 256) + 128) % 256]) := ⟨_, rfl⟩
          replace H : (kauditref25_Put.l0 k1 y530 (wrap64 (Int.tdiv x1_1 128))) = some r := by first | (rw [hy530]; with_reducible exact H) | (have H2_ := (Option.bind_some _ _).symm.trans H; rw [hy530]; with_reducible exact H2_) | (have H2_ := (Option.bind_some _ _).symm.trans H; with_reducible exact H2_) | with_reducible exact H | (rw [hy530]; exact H) | exact H
          have Ny530 := Aside0.mk hy530
          clear hy530
          have H' := Aside0.mk H
          clear H
          go_wp2_with (first | ((with_reducible refine gate_builtin (b := .append) (xs := #[.tmp 7, .tmp 12]) rfl ?_); at_builtin; refine RM_append (w0 := w0) w0.heap.size rfl (.tmp 7) (.tmp 12) 22 5 (.int .u8 0) 1 rfl Tryd.underlying22 info5 rfl (by decide) (by omega) u0 x0_1 ((Int.tmod x1_1 128 + 128) % 256) [.int .u8 ((Int.tmod x1_1 128 + 128) % 256)] (fun k_ => (P0_ k_ ∨ w.heap.size ≤ k_)) (fun _ => False) rfl rfl ?aP (fun _ hk => hk.elim) ?aF ?aO ?aB ?aS ?aL ?_; (case aP => exact rfl); (case aB => exact (by repeat (first | (with_reducible first | exact HB.out | apply below_alloc | apply pw_below_drewN | apply below_drew1) | exact HB.out))); (case aF => exact (fun k_ hk => (.inr (Nat.le_trans (by first | exact HK.out.1 | exact (show Kept w _ (fun k_ => P0_ k_) from by repeat (first | (with_reducible first | exact HK.out | apply Kept.alloc | apply Kept.drewN | apply Kept.drew) | exact HK.out)).1) hk)))); (case aO => exact (by (with_reducible repeat (first | apply RM_alloc | apply RM_drewN | apply RM_drew)); exact HO_0.out)); (case aS => exact (below_size (by repeat (first | (with_reducible first | exact HB.out | apply below_alloc | apply pw_below_drewN | apply below_drew1) | exact HB.out)))); (case aL => have := LMc4.out; omega); intro v531 w5 ho hb hg hat; rw [show ((Int.tmod x1_1 128 + 128) % 256) = ((((Int.tmod x1_1 128) % 256) + 128) % 256) from by omega] at ho; rw [← Ny530.out] at ho; have n0_ := Aside0.mk (hb); have n1_ := Aside0.mk (Kept.of_grown (S := (fun k_ => P0_ k_)) hg (by repeat (first | (with_reducible first | exact HK.out | apply Kept.alloc | apply Kept.drewN | apply Kept.drew) | exact HK.out)) (fun k_ e_ => (RM_own HO_0.out k_ e_))); have n2_ := Aside0.mk (ho); clear HB; clear HK; clear HO_0; have HB := n0_; have HK := n1_; have HO532 := n2_; clear n0_ n1_ n2_; clear ho hb hg hat))
          go_roundg k1
          case measure => have := HK1.out; omega
          case rel => exact ⟨(y530), (wrap64 (Int.tdiv x1_1 128)), (by first | rfl | (simp; done) | (simp [*]; done) | (simp only [isEmpty_ne_]; done)), H', ⟨by have := HK1.out; omega⟩, ⟨by (with_reducible repeat (first | apply RM_alloc | apply RM_drewN | apply RM_drew)); exact HO532.out⟩, ⟨by repeat (first | (with_reducible first | exact HK.out | apply Kept.alloc | apply Kept.drewN | apply Kept.drew) | exact HK.out)⟩, ⟨by repeat (first | (with_reducible first | exact HB.out | apply below_alloc | apply pw_below_drewN | apply below_drew1) | exact HB.out)⟩⟩
        · rw [if_neg c4] at H
          exact absurd H (by simp)
      · rw [if_neg c3] at H
        have c3b0 : decide (128 ≤ x1_1) = false := decide_eq_false c3
        clear c3
        by_cases c6 : x0_1.length < 140737488355328
        · rw [if_pos c6] at H
          have LMc6 := Aside0.mk c6
          clear c6
          obtain ⟨y533, hy533⟩ : ∃ y_ : List Int, y_ = (x0_1 ++ [(x1_1) % 256]) := ⟨_, rfl⟩
          replace H : (some y533) = some r := by first | (rw [hy533]; with_reducible exact H) | (have H2_ := (Option.bind_some _ _).symm.trans H; rw [hy533]; with_reducible exact H2_) | (have H2_ := (Option.bind_some _ _).symm.trans H; with_reducible exact H2_) | with_reducible exact H | (rw [hy533]; exact H) | exact H
          have Ny533 := Aside0.mk hy533
          clear hy533
          obtain rfl := Option.some.inj H
          go_wp2_with (first | ((with_reducible refine gate_builtin (b := .append) (xs := #[.tmp 16, .tmp 19]) rfl ?_); at_builtin; refine RM_append (w0 := w0) w0.heap.size rfl (.tmp 16) (.tmp 19) 22 5 (.int .u8 0) 1 rfl Tryd.underlying22 info5 rfl (by decide) (by omega) u0 x0_1 ((x1_1) % 256) [.int .u8 ((x1_1) % 256)] (fun k_ => (P0_ k_ ∨ w.heap.size ≤ k_)) (fun _ => False) rfl rfl ?aP (fun _ hk => hk.elim) ?aF ?aO ?aB ?aS ?aL ?_; (case aP => exact rfl); (case aB => exact (by repeat (first | (with_reducible first | exact HB.out | apply below_alloc | apply pw_below_drewN | apply below_drew1) | exact HB.out))); (case aF => exact (fun k_ hk => (.inr (Nat.le_trans (by first | exact HK.out.1 | exact (show Kept w _ (fun k_ => P0_ k_) from by repeat (first | (with_reducible first | exact HK.out | apply Kept.alloc | apply Kept.drewN | apply Kept.drew) | exact HK.out)).1) hk)))); (case aO => exact (by (with_reducible repeat (first | apply RM_alloc | apply RM_drewN | apply RM_drew)); exact HO_0.out)); (case aS => exact (below_size (by repeat (first | (with_reducible first | exact HB.out | apply below_alloc | apply pw_below_drewN | apply below_drew1) | exact HB.out)))); (case aL => have := LMc6.out; omega); intro v534 w7 ho hb hg hat; rw [← Ny533.out] at ho; have n0_ := Aside0.mk (hb); have n1_ := Aside0.mk (Kept.of_grown (S := (fun k_ => P0_ k_)) hg (by repeat (first | (with_reducible first | exact HK.out | apply Kept.alloc | apply Kept.drewN | apply Kept.drew) | exact HK.out)) (fun k_ e_ => (RM_own HO_0.out k_ e_))); have n2_ := Aside0.mk (ho); clear HB; clear HK; clear HO_0; have HB := n0_; have HK := n1_; have HO535 := n2_; clear n0_ n1_ n2_; clear ho hb hg hat))
          go_ret
          exact ⟨_, by first | rfl | (simp [errW_none, errW_some] <;> rfl) | (simp [*, errW_none, errW_some] <;> rfl) | (simp only [isEmpty_ne_, isEmpty_eq_]; rfl) | (simp [*, isEmpty_ne_, isEmpty_eq_]; done), by (with_reducible repeat (first | apply RM_alloc | apply RM_drewN | apply RM_drew)); exact HO535.out, by repeat (first | (with_reducible first | exact HB.out | apply below_alloc | apply pw_below_drewN | apply below_drew1) | exact HB.out), by repeat (first | (with_reducible first | exact HK.out | apply Kept.alloc | apply Kept.drewN | apply Kept.drew) | exact HK.out)⟩
        · rw [if_neg c6] at H
          exact absurd H (by simp)
end Go.Proofs.YtjnlmmjadlidlaaDoor.PRec
end
section
namespace Go.Proofs.YtjnlmmjadlidlaaDoor.PRec
open Go.RowKit Go.Proofs.YtjnlmmjadlidlaaDoorW.PrintWords Go.Proofs.YtjnlmmjadlidlaaDoorW.PrintLast Go.Proofs.YtjnlmmjadlidlaaDoorW.PrintMore
attribute [local go_sem] max2_int min2_int max_two min_two max_three min_three max_four min_four
set_option linter.unusedVariables false
set_option linter.unusedSimpArgs false
def logfile_Head.j0 : Nat → Int → Int → Bool → Int → Int → Option (List Int × Int × Int)
  | 0, _, _, _, _, _ => none
  | k + 1, x1, x2, x15, x510000, x510001 => if x15 = true then (some (([] : List Int), 0, 257)) else ((logfile_appendNumbers.f k (([107, 97, 117, 100, 105, 116] : List Int)) (([x1] : List Int))).bind fun t516 => ((digest_Put.f k x2).bind fun t519 => (if t516.length + t519.length < 140737488355328 then ((logfile_Frame.f k x510000 x510001 x2 (t516 ++ t519)).bind fun bt525 => (some (bt525.1, bt525.2.1, bt525.2.2))) else (none))))
def logfile_Head.f (k : Nat) (a0_0 : Int) (a0_1 : Int) (a1 : Int) (a2 : Int) : Option (List Int × Int × Int) := if a1 < 1 then (logfile_Head.j0 k a1 a2 true a0_0 a0_1) else (logfile_Head.j0 k a1 a2 (decide (a1 > 1000)) a0_0 a0_1)
theorem logfile_Head.mono_l : ∀ k, (∀ y0 y1 y2 y3 y4, LeO (logfile_Head.j0 k y0 y1 y2 y3 y4) (logfile_Head.j0 (k + 1) y0 y1 y2 y3 y4))
  | 0 => fun _ _ _ _ _ r h => by simp [logfile_Head.j0] at h
  | k + 1 => by
    have ih0 := logfile_Head.mono_l k
    · intro y0 y1 y2 y3 y4
      unfold logfile_Head.j0
      repeat' first
      | (with_reducible exact ih0 _ _ _ _ _)
      | (with_reducible exact digest_Put.mono _ _)
      | (with_reducible exact logfile_Frame.mono _ _ _ _ _)
      | (with_reducible exact logfile_appendNumbers.mono _ _ _)
      | (with_reducible exact LeO.refl _)
      | (with_reducible exact LeO.none _)
      | (with_reducible refine LeO.ite ?_ ?_)
      | (with_reducible refine LeO.bind ?_ (fun _ => ?_))
      | exact ih0 _ _ _ _ _
      | exact digest_Put.mono _ _
      | exact logfile_Frame.mono _ _ _ _ _
      | exact logfile_appendNumbers.mono _ _ _
      | exact LeO.none _
      | refine LeO.ite ?_ ?_
      | refine LeO.bind ?_ (fun _ => ?_)
theorem logfile_Head.mono : ∀ a0 a1 a2 a3 k, LeO (logfile_Head.f k a0 a1 a2 a3) (logfile_Head.f (k + 1) a0 a1 a2 a3) := by
  intro a0 a1 a2 a3 k
  have ih0 := logfile_Head.mono_l k
  unfold logfile_Head.f
  repeat' first
      | (with_reducible exact ih0 _ _ _ _ _)
      | (with_reducible exact digest_Put.mono _ _)
      | (with_reducible exact logfile_Frame.mono _ _ _ _ _)
      | (with_reducible exact logfile_appendNumbers.mono _ _ _)
      | (with_reducible exact LeO.refl _)
      | (with_reducible exact LeO.none _)
      | (with_reducible refine LeO.ite ?_ ?_)
      | (with_reducible refine LeO.bind ?_ (fun _ => ?_))
      | exact ih0 _ _ _ _ _
      | exact digest_Put.mono _ _
      | exact logfile_Frame.mono _ _ _ _ _
      | exact logfile_appendNumbers.mono _ _ _
      | exact LeO.none _
      | refine LeO.ite ?_ ?_
      | refine LeO.bind ?_ (fun _ => ?_)
def logfile_Head.T4 : Bool × List (List Nat × List Nat) := (true, [([], []), ([], []), ([], []), ([], []), ([3], [3]), ([2, 4, 4], [2, 4]), ([0, 1, 5, 5], [0, 1, 5]), ([6], [6]), ([6], [6]), ([6], [6]), ([7, 6, 0, 1, 2, 3, 4, 5, 6, 7, 8, 9], [7]), ([8, 10, 0, 1, 2, 3, 4, 5, 6, 7, 8, 9, 10], [8]), ([9, 11, 0, 1, 2, 3, 4, 5, 6, 7, 8, 9, 10, 11], [9])])
def logfile_Head.B4 : List Nat := [0, 0, 0, 0, 8, 28, 63, 127, 127, 127, 1023, 2047, 4095]
theorem logfile_Head.tab4 : rtab .any (opsOf Tryd.f51 4) = logfile_Head.T4 := by kernel_rfl
theorem logfile_Head.bits4 : waitsOk logfile_Head.T4.2 logfile_Head.B4 = true := by kernel_rfl
set_option maxHeartbeats 8000000 in
set_option maxRecDepth 100000 in
theorem logfile_Head.calls (k : Nat) (a0_0 : Int) (a0_1 : Int) (a1 : Int) (a2 : Int) (r1 : List Int) (r2 : Int) (r3 : Int) (w : World) (h : logfile_Head.f k a0_0 a0_1 a1 a2 = some (r1, r2, r3)) :
    Calls Tryd.prog 51 #[.agg #[.int .u64 a0_0, .int .u64 a0_1], .int .i64 a1, .int .u64 a2] w fun e w' => ∃ v0_ : Value, e = .returned (.tuple #[v0_, .int .u64 r2, .int .i64 r3]) ∧ Kd.R (Kd.int .u8) 5 w' w.heap.size (fun _ => True) v0_ r1 ∧ Below w.heap.size w w' := by
  have hu69 := Tryd.underlying69
  have HB := Aside0.mk (Below.refl w.heap.size w)
  have H : (if a1 < 1 then (logfile_Head.j0 k a1 a2 true a0_0 a0_1) else (logfile_Head.j0 k a1 a2 (decide (a1 > 1000)) a0_0 a0_1)) = some (r1, r2, r3) := h
  clear h
  have HC4 := Aside0.mk H
  clear H
  go_enter Tryd.func51, Tryd.ntmps51
  go_upto_region 1 with (first | ((with_reducible refine gate_dst (N := 3) rfl ?_); refine box_event ?hg (N := 3) ?hd (cs := #[.int .u64 a0_0, .int .u64 a0_1]) (t := 69) ?hr ?_; (case hd => rfl); (case hg => rfl); (case hr => first | (go_simp; done) | (go_simp; rfl)); intro gb509 hg w5 hbox hb; have n0_ := Aside0.mk (below_step (by repeat (first | (with_reducible first | exact HB.out | apply below_alloc | apply pw_below_drewN | apply below_drew1) | exact HB.out)) hb); have n1_ := Aside0.mk (hbox); have n2_ := Aside0.mk ((by rw [hg]; exact (below_size (by repeat (first | (with_reducible first | exact HB.out | apply below_alloc | apply pw_below_drewN | apply below_drew1) | exact HB.out))) : w.heap.size ≤ gb509)); have n3_ := Aside0.mk ((by rw [hg]; exact (below_size (by repeat (first | (with_reducible first | exact HB.out | apply below_alloc | apply pw_below_drewN | apply below_drew1) | exact HB.out))) : w.heap.size ≤ gb509)); clear HB; have HB := n0_; have BK509 := n1_; have GW509 := n2_; have GE509 := n3_; clear n0_ n1_ n2_ n3_; clear hb hbox hg))
  (try simp only [Act.put, List.setIfInBounds_toArray, List.set_cons_zero, List.set_cons_succ])
  go_cut [15] (fun v15 wc => ∃ (kq : Nat) (x15_3 : Bool), v15 = .bool x15_3 ∧ Aside0 (logfile_Head.j0 kq a1 a2 x15_3 a0_0 a0_1 = some (r1, r2, r3)) ∧ Aside0 (kq ≤ k) ∧ Aside0 (wc.heap[gb509]? = some (.cells #[.int .u64 a0_0, .int .u64 a0_1] 69 (0, 0))) ∧ Aside0 (Below w.heap.size w wc))
  case first =>
    have H := HC4.out
    clear HC4
    by_cases c6 : a1 < 1
    · rw [if_pos c6] at H
      have c6b0 : decide (a1 < 1) = true := decide_eq_true c6
      clear c6
      (first | rw [c6b0] | (simp only [i64_w, i32_w]; rw [c6b0]) | skip)
      have H' := Aside0.mk H
      clear H
      go_wp2
      go_meet
      case rel => exact ⟨_, (true), (by first | rfl | (simp; done) | (simp [*]; done) | (simp only [isEmpty_ne_]; done)), H', ⟨by first | omega | exact Nat.le_refl _⟩, ⟨by (with_reducible repeat (first | refine blk_drewN ?_ _ | refine blk_drew ?_ | refine blk_alloc ?_ _)); exact BK509.out⟩, ⟨by repeat (first | (with_reducible first | exact HB.out | apply below_alloc | apply pw_below_drewN | apply below_drew1 | refine below_set ?_ GE509.out) | exact HB.out)⟩⟩
    · rw [if_neg c6] at H
      have c6b0 : decide (a1 < 1) = false := decide_eq_false c6
      clear c6
      (first | rw [c6b0] | (simp only [i64_w, i32_w]; rw [c6b0]) | skip)
      have H' := Aside0.mk H
      clear H
      go_wp2
      go_meet
      case rel => exact ⟨_, (decide (a1 > 1000)), (by first | rfl | (simp; done) | (simp [*]; done) | (simp only [isEmpty_ne_]; done)), H', ⟨by first | omega | exact Nat.le_refl _⟩, ⟨by (with_reducible repeat (first | refine blk_drewN ?_ _ | refine blk_drew ?_ | refine blk_alloc ?_ _)); exact BK509.out⟩, ⟨by repeat (first | (with_reducible first | exact HB.out | apply below_alloc | apply pw_below_drewN | apply below_drew1 | refine below_set ?_ GE509.out) | exact HB.out)⟩⟩
  case rest =>
    clear HC4
    try clear p2
    try clear c5
    try clear c6
    try clear c6b0
    obtain ⟨kq, x15_3, rfl, HA, HJ3, BK509, HB⟩ := hcut
    cases kq with
    | zero => exact absurd HA.out (by simp [logfile_Head.j0])
    | succ kj3 =>
      have H := HA.out
      clear HA
      simp only [logfile_Head.j0] at H
      by_cases c7 : x15_3 = true
      · subst c7
        have H1 : (some (([] : List Int), 0, 257)) = some (r1, r2, r3) := by rw [if_pos rfl] at H; exact H
        clear H
        have H := H1
        clear H1
        simp only [Option.some.injEq, Prod.mk.injEq] at H
        obtain ⟨rfl, rfl, rfl⟩ := H
        go_wp2
        go_ret3
        exact ⟨_, by first | rfl | (simp [errW_none, errW_some] <;> rfl) | (simp [*, errW_none, errW_some] <;> rfl) | (simp only [isEmpty_ne_, isEmpty_eq_]; rfl) | (simp [*, isEmpty_ne_, isEmpty_eq_]; done), by first | exact Kd.R_nil _ _ _ _ _ | exact Kd.N_nil _ _ _ _ _ | exact Kd.V_nil _ _ _ _ _ | exact Kd.Q_nil _ _ _ _ _ | exact Kd.S_nil _ _ _ _ _, by repeat (first | (with_reducible first | exact HB.out | apply below_alloc | apply pw_below_drewN | apply below_drew1 | refine below_set ?_ GE509.out) | exact HB.out)⟩
      · replace c7 := Bool.eq_false_iff.mpr c7
        subst c7
        have H1 : ((logfile_appendNumbers.f kj3 (([107, 97, 117, 100, 105, 116] : List Int)) (([a1] : List Int))).bind fun t516 => ((digest_Put.f kj3 a2).bind fun t519 => (if t516.length + t519.length < 140737488355328 then ((logfile_Frame.f kj3 a0_0 a0_1 a2 (t516 ++ t519)).bind fun bt525 => (some (bt525.1, bt525.2.1, bt525.2.2))) else (none)))) = some (r1, r2, r3) := by rw [if_neg (show ¬ (false = true) by decide)] at H; exact H
        clear H
        have H := H1
        clear H1
        obtain ⟨y510, hy510⟩ : ∃ y_ : List Int, y_ = (([107, 97, 117, 100, 105, 116] : List Int)) := ⟨_, rfl⟩
        replace H : ((logfile_appendNumbers.f kj3 y510 (([a1] : List Int))).bind fun t516 => ((digest_Put.f kj3 a2).bind fun t519 => (if t516.length + t519.length < 140737488355328 then ((logfile_Frame.f kj3 a0_0 a0_1 a2 (t516 ++ t519)).bind fun bt525 => (some (bt525.1, bt525.2.1, bt525.2.2))) else (none)))) = some (r1, r2, r3) := by first | (rw [hy510]; with_reducible exact H) | (have H2_ := (Option.bind_some _ _).symm.trans H; rw [hy510]; with_reducible exact H2_) | (have H2_ := (Option.bind_some _ _).symm.trans H; with_reducible exact H2_) | with_reducible exact H | (rw [hy510]; exact H) | exact H
        have Ny510 := Aside0.mk hy510
        clear hy510
        obtain ⟨y513, hy513⟩ : ∃ y_ : List Int, y_ = (([a1] : List Int)) := ⟨_, rfl⟩
        replace H : ((logfile_appendNumbers.f kj3 y510 y513).bind fun t516 => ((digest_Put.f kj3 a2).bind fun t519 => (if t516.length + t519.length < 140737488355328 then ((logfile_Frame.f kj3 a0_0 a0_1 a2 (t516 ++ t519)).bind fun bt525 => (some (bt525.1, bt525.2.1, bt525.2.2))) else (none)))) = some (r1, r2, r3) := by first | (rw [hy513]; with_reducible exact H) | (have H2_ := (Option.bind_some _ _).symm.trans H; rw [hy513]; with_reducible exact H2_) | (have H2_ := (Option.bind_some _ _).symm.trans H; with_reducible exact H2_) | with_reducible exact H | (rw [hy513]; exact H) | exact H
        have Ny513 := Aside0.mk hy513
        clear hy513
        replace H := Option.bind_eq_some_iff.mp H
        obtain ⟨t516, A80, H⟩ := H
        replace H : ((digest_Put.f kj3 a2).bind fun t519 => (if t516.length + t519.length < 140737488355328 then ((logfile_Frame.f kj3 a0_0 a0_1 a2 (t516 ++ t519)).bind fun bt525 => (some (bt525.1, bt525.2.1, bt525.2.2))) else (none))) = some (r1, r2, r3) := H
        have A8 := Aside0.mk A80
        clear A80
        replace H := Option.bind_eq_some_iff.mp H
        obtain ⟨t519, A90, H⟩ := H
        replace H : (if t516.length + t519.length < 140737488355328 then ((logfile_Frame.f kj3 a0_0 a0_1 a2 (t516 ++ t519)).bind fun bt525 => (some (bt525.1, bt525.2.1, bt525.2.2))) else (none)) = some (r1, r2, r3) := H
        have A9 := Aside0.mk A90
        clear A90
        by_cases c10 : t516.length + t519.length < 140737488355328
        · rw [if_pos c10] at H
          have LMc10 := Aside0.mk c10
          clear c10
          obtain ⟨y522, hy522⟩ : ∃ y_ : List Int, y_ = (t516 ++ t519) := ⟨_, rfl⟩
          replace H : ((logfile_Frame.f kj3 a0_0 a0_1 a2 y522).bind fun bt525 => (some (bt525.1, bt525.2.1, bt525.2.2))) = some (r1, r2, r3) := by first | (rw [hy522]; with_reducible exact H) | (have H2_ := (Option.bind_some _ _).symm.trans H; rw [hy522]; with_reducible exact H2_) | (have H2_ := (Option.bind_some _ _).symm.trans H; with_reducible exact H2_) | with_reducible exact H | (rw [hy522]; exact H) | exact H
          have Ny522 := Aside0.mk hy522
          clear hy522
          replace H := Option.bind_eq_some_iff.mp H
          obtain ⟨⟨t525, t528, t529⟩, A110, H⟩ := H
          replace H : (some (t525, t528, t529)) = some (r1, r2, r3) := H
          have A11 := Aside0.mk A110
          clear A110
          simp only [Option.some.injEq, Prod.mk.injEq] at H
          obtain ⟨rfl, rfl, rfl⟩ := H
          try go_wp2_with (first | ((with_reducible refine gate_dst (N := 16) rfl ?_); refine lit6 _ ?hg 16 ?hd ?hr (Below.refl _ _) (Nat.le_refl _) ?_; (case hd => rfl); (case hg => rfl); (case hr => first | (go_simp; done) | (go_simp; rfl)); intro g6 w12 hg6 hb6 hb _; have n1_ := Aside0.mk (blk_below (g := gb509) (o := .cells #[.int .u64 a0_0, .int .u64 a0_1] 69 (0, 0)) (by (with_reducible repeat (first | refine blk_drewN ?_ _ | refine blk_drew ?_ | refine blk_alloc ?_ _)); exact BK509.out) hb); have n2_ := Aside0.mk (below_step (by repeat (first | (with_reducible first | exact HB.out | apply below_alloc | apply pw_below_drewN | apply below_drew1 | refine below_set ?_ GE509.out) | exact HB.out)) hb); have G6 := Aside0.mk (show w.heap.size ≤ g6 from by rw [hg6]; exact below_size (by repeat (first | (with_reducible first | exact HB.out | apply below_alloc | apply pw_below_drewN | apply below_drew1 | refine below_set ?_ GE509.out) | exact HB.out))); have NE6 := Aside0.mk (show gb509 ≠ g6 from by rw [hg6]; exact Nat.ne_of_lt (blk_lt (by (with_reducible repeat (first | refine blk_drewN ?_ _ | refine blk_drew ?_ | refine blk_alloc ?_ _)); exact BK509.out))); clear BK509 HB; have BK509 := n1_; have HB := n2_; have M6 := Aside0.mk hb6; clear n1_ n2_ hb hb6 hg6) | ((with_reducible refine gate_dst (N := 17) rfl ?_); refine cv6 rfl rfl rfl Tryd.underlying22 Tryd.underlying5 M6.out ?_; intro w9 hm6 hgr6; have n1_ := Aside0.mk (blk_grown BK509.out hgr6 (fun e_ => NE6.out (Option.some.inj e_))); have n2_ := Aside0.mk (HB.out.grown hgr6 (below_size HB.out) (fun k_ hk_ => by cases hk_; exact G6.out)); clear BK509 HB M6; have BK509 := n1_; have HB := n2_; have M6 := Aside0.mk hm6; clear n1_ n2_ hm6 hgr6) | ((with_reducible refine gate_dst (N := 19) rfl ?_); refine Kd.R_lit (Kd.int .i64) _ 3 ?hg (N := 19) ?hd (xs := ([a1] : List Int)) (inner := [.int .i64 a1]) (ok := fun k_ => k_ ≠ g6) (okp := fun k_ => k_ ≠ g6) ?hr ?hp (fun _ hk => hk) (Nat.ne_of_gt (blk_lt M6.out)) (Below.refl _ _) (Nat.le_refl _) (by simp) ?_; (case hd => rfl); (case hg => rfl); (case hr => first | (go_simp; done) | (go_simp; rfl)); (case hp => exact (Reps.one (show Kd.M (Kd.int .i64) _ _ _ a1 [.int .i64 a1] from rfl) (Reps.none _ _))); intro v514 w14 ho15 hb hg_ hnew_; clear hg_ hnew_; (first | rw [← Ny513.out] at ho15 | (simp only [Int.reduceToNat] at ho15; rw [← Ny513.out] at ho15)); have n0_ := Aside0.mk (blk_below M6.out hb); have n1_ := Aside0.mk (Kd.R_lower ho15 (below_size (by repeat (first | (with_reducible first | exact HB.out | apply below_alloc | apply pw_below_drewN | apply below_drew1 | refine below_set ?_ GE509.out) | exact HB.out)))); have n2_ := Aside0.mk (blk_below (g := gb509) (o := .cells #[.int .u64 a0_0, .int .u64 a0_1] 69 (0, 0)) (by (with_reducible repeat (first | refine blk_drewN ?_ _ | refine blk_drew ?_ | refine blk_alloc ?_ _)); exact BK509.out) hb); have n3_ := Aside0.mk (below_step (by repeat (first | (with_reducible first | exact HB.out | apply below_alloc | apply pw_below_drewN | apply below_drew1 | refine below_set ?_ GE509.out) | exact HB.out)) hb); clear M6; clear BK509; clear HB; have M6 := n0_; have HO515 := n1_; have BK509 := n2_; have HB := n3_; clear n0_ n1_ n2_ n3_; clear hb ho15; obtain ⟨Ao17, co17, eo17⟩ := Kd.R_slice HO515.out; subst eo17) | ((with_reducible refine gate_callee (f := 89) rfl ?_); refine goesL_ (some 20) rfl rfl Tryd.func89 (by kernel_rfl) rfl #[.slice (some ⟨g6, 0, none⟩) 6 6, .slice Ao17 y513.length co17] rfl (by (try simp only [List.map_toArray, List.map_cons, List.map_nil]); first | done | rfl | (simp only [List.length_drop, List.length_take]; rfl)) ?_; (with_reducible refine (logfile_appendNumbers.callsM kj3 (fun k_ => k_ = g6) (.slice (some ⟨g6, 0, none⟩) 6 6) y510 _ _ y513 t516 w _ ?side1 ?side2 ?side3 ?side4 A8.out).mono ?_); (case side1 => repeat (first | (with_reducible first | exact HB.out | apply below_alloc | apply pw_below_drewN | apply below_drew1 | refine below_set ?_ GE509.out) | exact HB.out)); (case side2 => exact .inr ⟨⟨g6, rfl, rfl, G6.out, M6.out⟩, Ny510.out⟩); (case side3 => exact Kd.C_kept_own HO515.out (fun k_ hk_ hs_ => hk_ hs_)); (case side4 => exact (Kd.R_reads' HO515.out).2.1); rintro e w18 ⟨v517, rfl, ho0, hb, hkp⟩; refine ⟨_, rfl, ?_⟩; have n0_ := Aside0.mk (blk_kept BK509.out hkp (fun hs_ => NE6.out hs_)); have n1_ := Aside0.mk (Kd.R_mono (ok' := fun k_ => True) (Kd.R_keptB HO515.out hkp (fun k_ hk_ hs_ => hk_ hs_)) (fun k_ hk_ => trivial)); have n2_ := Aside0.mk (Kd.R_mono (ok' := fun k_ => True) (RM_R ho0 (nums_ne kj3 a1 _ (by have h_ := A8.out; rw [Ny510.out, Ny513.out] at h_; exact h_))) (fun k_ hk_ => trivial)); have n3_ := Aside0.mk (hb); clear BK509; clear HO515; clear HB; clear M6; have BK509 := n0_; have HO515 := n1_; have HO518 := n2_; have HB := n3_; clear n0_ n1_ n2_ n3_; (try clear hb); (try clear hkp); (try clear ho0)))
          have n0_ := Aside0.mk (Kd.R_drew HO515.out)
          have n1_ := Aside0.mk (Kd.R_drew HO518.out)
          have n2_ := Aside0.mk (blk_drew BK509.out)
          have n3_ := Aside0.mk (below_drew1 HB.out)
          clear HO515
          clear HO518
          clear BK509
          clear HB
          have HO515 := n0_
          have HO518 := n1_
          have BK509 := n2_
          have HB := n3_
          clear n0_ n1_ n2_ n3_
          refine start_ (n := 13) (S := fun w' => w'.cell? ⟨gb509, 0, none⟩ = some (.int .u64 a0_0) ∧ w'.cell? ⟨gb509, 1, none⟩ = some (.int .u64 a0_1)) (ds := []) #[false, false, false, false, false, false, false, false, false, false, false, false, false] (by kernel_rfl) rfl rfl ⟨(blk_cell BK509.out 0).trans rfl, (blk_cell BK509.out 1).trans rfl⟩ (fun hHeld => ?_); refine with_tabW logfile_Head.tab4 logfile_Head.bits4 (fun HT_ HW_ => ?_)
          generalize w18.drew = w19 at HO515 HO518 BK509 HB hHeld ⊢
          refine pure_ (i := 1) (N := some 22) (v := ?_) (a' := ?_) #[false, true, false, false, false, false, false, false, false, false, false, false, false] rfl rfl (any_of HT_.out (by kernel_rfl)) (fun _ _ _ h => h) (Or.inl ⟨by rfl, ?_⟩) ?_ ?_
          rotate_left
          · intro w'
            go_simp
            with_reducible rfl
          rotate_left
          · simp only [Act.put, List.setIfInBounds_toArray, List.set_cons_zero, List.set_cons_succ, i64_w, i32_w]
            rfl
          refine pure_ (i := 2) (N := some 23) (v := ?_) (a' := ?_) #[false, true, true, false, false, false, false, false, false, false, false, false, false] rfl rfl (any_of HT_.out (by kernel_rfl)) (fun _ _ _ h => h) (Or.inl ⟨by rfl, ?_⟩) ?_ ?_
          rotate_left
          · intro w'
            go_simp
            with_reducible rfl
          rotate_left
          · simp only [Act.put, List.setIfInBounds_toArray, List.set_cons_zero, List.set_cons_succ, i64_w, i32_w]
            rfl
          refine pure_ (i := 3) (N := some 24) (v := ?_) (a' := ?_) #[false, true, true, true, false, false, false, false, false, false, false, false, false] rfl rfl (any_of HT_.out (by kernel_rfl)) (fun _ _ _ h => h) (Or.inl ⟨by rfl, ?_⟩) ?_ ?_
          rotate_left
          · intro w'
            go_simp
            with_reducible rfl
          rotate_left
          · simp only [Act.put, List.setIfInBounds_toArray, List.set_cons_zero, List.set_cons_succ, i64_w, i32_w]
            rfl
          refine take_ (i := 0) (N := some 21) (v := ?_) (a' := ?_) #[true, true, true, true, false, false, false, false, false, false, false, false, false] rfl rfl (take_ofW HT_.out HW_.out (by kernel_rfl)) (fun _ _ _ h => h) (Or.inl ⟨by rfl, ?_⟩) hHeld ?_ ?_
          rotate_left
          · rintro w' ⟨s0, s1⟩
            go_simp
            with_reducible rfl
          rotate_left
          · simp only [Act.put, List.setIfInBounds_toArray, List.set_cons_zero, List.set_cons_succ, i64_w, i32_w]
            rfl
          refine one_ (i := 4) (N := some 25) #[true, true, true, true, true, false, false, false, false, false, false, false, false] rfl rfl (one_of HT_.out (by kernel_rfl)) (by decide) (fun K hK => ?_)
          refine goes_ Tryd.func86 (by kernel_rfl) rfl #[.int .u64 a2] (by rfl) rfl rfl (by (try simp only [List.map_toArray, List.map_cons, List.map_nil]); first | done | rfl | (simp only [List.length_drop, List.length_take]; rfl)) ?_
          with_reducible refine (digest_Put.calls kj3 a2 t519 _ A9.out).mono ?_
          rintro e w20 ⟨v520, rfl, ho0, hb⟩
          refine ⟨_, rfl, ?_⟩
          have n0_ := Aside0.mk (Kd.R_below (by (with_reducible repeat (first | apply Kd.R_alloc | apply Kd.R_drewN | apply Kd.R_drew)); exact HO515.out) hb)
          have n1_ := Aside0.mk (Kd.R_elder' (by (with_reducible repeat (first | apply Kd.R_alloc | apply Kd.R_drewN | apply Kd.R_drew)); exact HO518.out) (Kd.R_base ho0) hb)
          have n2_ := Aside0.mk (Kd.R_lower (Kd.R_new' ho0 (Kd.R_lt (by (with_reducible repeat (first | apply Kd.R_alloc | apply Kd.R_drewN | apply Kd.R_drew)); exact HO518.out))) (below_size (by repeat (first | (with_reducible first | exact HB.out | apply below_alloc | apply pw_below_drewN | apply below_drew1 | refine below_set ?_ GE509.out) | exact HB.out))))
          have n3_ := Aside0.mk (blk_below (g := gb509) (o := .cells #[.int .u64 a0_0, .int .u64 a0_1] 69 (0, 0)) (by (with_reducible repeat (first | refine blk_drewN ?_ _ | refine blk_drew ?_ | refine blk_alloc ?_ _)); exact BK509.out) hb)
          have n4_ := Aside0.mk (below_step (by repeat (first | (with_reducible first | exact HB.out | apply below_alloc | apply pw_below_drewN | apply below_drew1 | refine below_set ?_ GE509.out) | exact HB.out)) hb)
          clear HO515
          clear HO518
          clear BK509
          clear HB
          have HO515 := n0_
          have HO518 := n1_
          have HO521 := n2_
          have BK509 := n3_
          have HB := n4_
          clear n0_ n1_ n2_ n3_ n4_
          (try clear hb)
          (try clear hb2)
          (try clear hk)
          (try clear hi)
          (try clear ho0)
          obtain ⟨Ao22, co22, eo22⟩ := Kd.R_slice HO521.out
          (first | subst eo22 | (injection eo22 with f1_ f2_ f3_; have f4_ := f1_.symm; have f5_ := f3_.symm; clear f1_ f2_ f3_; subst f4_; subst f5_))
          refine hK.out _ _ ⟨(blk_cell BK509.out 0).trans rfl, (blk_cell BK509.out 1).trans rfl⟩ (fun hHeld => ?_)
          clear hK K
          refine norm_ (a' := ?_) ?_ ?_
          rotate_left
          · show Act.put _ (some 25) _ = _
            simp only [Act.put, List.setIfInBounds_toArray, List.set_cons_zero, List.set_cons_succ, i64_w, i32_w]
            rfl
          refine one_ (i := 5) (N := some 26) #[true, true, true, true, true, true, false, false, false, false, false, false, false] rfl rfl (one_of HT_.out (by kernel_rfl)) (by decide) (fun K hK => ?_)
          refine Kd.R_append_rows_step (Kd.int .u8) (w0 := w) w.heap.size (by rfl) (.tmp 23) (.tmp 25) 22 5 (.int .u8 0) 1 rfl Tryd.underlying22 info5 rfl (by decide) (by omega) v517 t516 t519 _ _ _ (fun k_ => some k_ ≠ (.slice Ao22 t519.length co22 : Value).ownBlock) (fun _ => False) rfl rfl ?aO ?aR (fun _ _ h => h) (fun _ h => h.elim) ?aF ?aB ?aS ?aL ?_
          (case aR => repeat (first | exact (Kd.R_reads' HO521.out).2.2 | (with_reducible refine Kd.C_alloc ?_ _) | (with_reducible refine Kd.C_drewN ?_ _) | (with_reducible refine Kd.C_drew ?_)))
          (case aB => exact (by repeat (first | (with_reducible first | exact HB.out | apply below_alloc | apply pw_below_drewN | apply below_drew1 | refine below_set ?_ GE509.out) | exact HB.out)))
          (case aF => exact (fun k_ hk => Kd.fresh' (Kd.R_lt (by (with_reducible repeat (first | apply Kd.R_alloc | apply Kd.R_drewN | apply Kd.R_drew)); exact HO521.out)) k_ hk))
          (case aO => exact (by (with_reducible repeat (first | apply Kd.R_alloc | apply Kd.R_drewN | apply Kd.R_drew)); exact Kd.R_mono HO518.out (fun _ hk => hk.2)))
          (case aS => exact (below_size (by repeat (first | (with_reducible first | exact HB.out | apply below_alloc | apply pw_below_drewN | apply below_drew1 | refine below_set ?_ GE509.out) | exact HB.out))))
          (case aL => have := LMc10.out; omega)
          intro v523 w21 ho hb hg hat
          rw [← Ny522.out] at ho
          have n0_ := Aside0.mk (blk_grown (g := gb509) (o := .cells #[.int .u64 a0_0, .int .u64 a0_1] 69 (0, 0)) (by (with_reducible repeat (first | refine blk_drewN ?_ _ | refine blk_drew ?_ | refine blk_alloc ?_ _)); exact BK509.out) hg (Kd.R_ne HO518.out BK509.out (by decide)))
          have n1_ := Aside0.mk (Kd.R_over' (by (with_reducible repeat (first | apply Kd.R_alloc | apply Kd.R_drewN | apply Kd.R_drew)); exact HO515.out) (Kd.R_typed (by (with_reducible repeat (first | apply Kd.R_alloc | apply Kd.R_drewN | apply Kd.R_drew)); exact HO518.out)) (by decide) hg)
          have n2_ := Aside0.mk (Kd.R_after (ok := (fun _ => True)) (by (with_reducible repeat (first | apply Kd.R_alloc | apply Kd.R_drewN | apply Kd.R_drew)); exact HO521.out) hg hat)
          have n3_ := Aside0.mk (hb)
          have n4_ := Aside0.mk (ho)
          clear BK509
          clear HO515
          clear HO521
          clear HB
          clear HO518
          have BK509 := n0_
          have HO515 := n1_
          have HO521 := n2_
          have HB := n3_
          have HO524 := n4_
          clear n0_ n1_ n2_ n3_ n4_
          clear ho hb hg hat
          obtain ⟨Ao23, co23, eo23⟩ := Kd.R_slice HO524.out
          (first | subst eo23 | (injection eo23 with f1_ f2_ f3_; have f4_ := f1_.symm; have f5_ := f3_.symm; clear f1_ f2_ f3_; subst f4_; subst f5_))
          refine hK.out _ _ ⟨(blk_cell BK509.out 0).trans rfl, (blk_cell BK509.out 1).trans rfl⟩ (fun hHeld => ?_)
          clear hK K
          refine norm_ (a' := ?_) ?_ ?_
          rotate_left
          · show Act.put _ (some 26) _ = _
            simp only [Act.put, List.setIfInBounds_toArray, List.set_cons_zero, List.set_cons_succ, i64_w, i32_w]
            rfl
          refine one_ (i := 6) (N := some 27) #[true, true, true, true, true, true, true, false, false, false, false, false, false] rfl rfl (one_of HT_.out (by kernel_rfl)) (by decide) (fun K hK => ?_)
          refine goes_ Tryd.func48 (by kernel_rfl) rfl #[.agg #[.int .u64 a0_0, .int .u64 a0_1], .int .u64 a2, .slice Ao23 y522.length co23] (by rfl) rfl rfl (by (try simp only [List.map_toArray, List.map_cons, List.map_nil]); first | done | rfl | (simp only [List.length_drop, List.length_take]; rfl)) ?_
          with_reducible refine (logfile_Frame.calls kj3 a0_0 a0_1 a2 _ _ y522 t525 t528 t529 _ ?side1 ?side2 A11.out).mono ?_
          (case side1 => repeat (first | exact (Kd.R_reads' HO524.out).2.2 | (with_reducible refine Kd.C_alloc ?_ _) | (with_reducible refine Kd.C_drewN ?_ _) | (with_reducible refine Kd.C_drew ?_)))
          (case side2 => exact (Kd.R_reads' HO524.out).2.1)
          rintro e w24 ⟨v526, rfl, ho0, hb⟩
          refine ⟨_, rfl, ?_⟩
          have n0_ := Aside0.mk (Kd.R_below (by (with_reducible repeat (first | apply Kd.R_alloc | apply Kd.R_drewN | apply Kd.R_drew)); exact HO515.out) hb)
          have n1_ := Aside0.mk (Kd.R_elder' (by (with_reducible repeat (first | apply Kd.R_alloc | apply Kd.R_drewN | apply Kd.R_drew)); exact HO521.out) (Kd.R_base ho0) hb)
          have n2_ := Aside0.mk (Kd.R_elder' (by (with_reducible repeat (first | apply Kd.R_alloc | apply Kd.R_drewN | apply Kd.R_drew)); exact HO524.out) (Kd.R_base ho0) hb)
          have n3_ := Aside0.mk (Kd.R_lower (Kd.R_new' (Kd.R_new' ho0 (Kd.R_lt (by (with_reducible repeat (first | apply Kd.R_alloc | apply Kd.R_drewN | apply Kd.R_drew)); exact HO521.out))) (Kd.R_lt (by (with_reducible repeat (first | apply Kd.R_alloc | apply Kd.R_drewN | apply Kd.R_drew)); exact HO524.out))) (below_size (by repeat (first | (with_reducible first | exact HB.out | apply below_alloc | apply pw_below_drewN | apply below_drew1 | refine below_set ?_ GE509.out) | exact HB.out))))
          have n4_ := Aside0.mk (blk_below (g := gb509) (o := .cells #[.int .u64 a0_0, .int .u64 a0_1] 69 (0, 0)) (by (with_reducible repeat (first | refine blk_drewN ?_ _ | refine blk_drew ?_ | refine blk_alloc ?_ _)); exact BK509.out) hb)
          have n5_ := Aside0.mk (below_step (by repeat (first | (with_reducible first | exact HB.out | apply below_alloc | apply pw_below_drewN | apply below_drew1 | refine below_set ?_ GE509.out) | exact HB.out)) hb)
          clear HO515
          clear HO521
          clear HO524
          clear BK509
          clear HB
          have HO515 := n0_
          have HO521 := n1_
          have HO524 := n2_
          have HO527 := n3_
          have BK509 := n4_
          have HB := n5_
          clear n0_ n1_ n2_ n3_ n4_ n5_
          (try clear hb)
          (try clear hb2)
          (try clear hk)
          (try clear hi)
          (try clear ho0)
          refine hK.out _ _ ⟨(blk_cell BK509.out 0).trans rfl, (blk_cell BK509.out 1).trans rfl⟩ (fun hHeld => ?_)
          clear hK K
          refine norm_ (a' := ?_) ?_ ?_
          rotate_left
          · show Act.put _ (some 27) _ = _
            simp only [Act.put, List.setIfInBounds_toArray, List.set_cons_zero, List.set_cons_succ, i64_w, i32_w]
            rfl
          refine pure_ (i := 7) (N := some 28) (v := ?_) (a' := ?_) #[true, true, true, true, true, true, true, true, false, false, false, false, false] rfl rfl (any_of HT_.out (by kernel_rfl)) (fun _ _ _ h => h) (Or.inl ⟨by rfl, ?_⟩) ?_ ?_
          rotate_left
          · intro w'
            go_simp
            with_reducible rfl
          rotate_left
          · simp only [Act.put, List.setIfInBounds_toArray, List.set_cons_zero, List.set_cons_succ, i64_w, i32_w]
            rfl
          refine pure_ (i := 8) (N := some 29) (v := ?_) (a' := ?_) #[true, true, true, true, true, true, true, true, true, false, false, false, false] rfl rfl (any_of HT_.out (by kernel_rfl)) (fun _ _ _ h => h) (Or.inl ⟨by rfl, ?_⟩) ?_ ?_
          rotate_left
          · intro w'
            go_simp
            with_reducible rfl
          rotate_left
          · simp only [Act.put, List.setIfInBounds_toArray, List.set_cons_zero, List.set_cons_succ, i64_w, i32_w]
            rfl
          refine pure_ (i := 9) (N := some 30) (v := ?_) (a' := ?_) #[true, true, true, true, true, true, true, true, true, true, false, false, false] rfl rfl (any_of HT_.out (by kernel_rfl)) (fun _ _ _ h => h) (Or.inl ⟨by rfl, ?_⟩) ?_ ?_
          rotate_left
          · intro w'
            go_simp
            with_reducible rfl
          rotate_left
          · simp only [Act.put, List.setIfInBounds_toArray, List.set_cons_zero, List.set_cons_succ, i64_w, i32_w]
            rfl
          refine pure_ (i := 10) (N := some 6) (v := ?_) (a' := ?_) #[true, true, true, true, true, true, true, true, true, true, true, false, false] rfl rfl (any_of HT_.out (by kernel_rfl)) (fun _ _ _ h => h) (Or.inl ⟨by rfl, ?_⟩) ?_ ?_
          rotate_left
          · intro w'
            go_simp
            with_reducible rfl
          rotate_left
          · simp only [Act.put, List.setIfInBounds_toArray, List.set_cons_zero, List.set_cons_succ, i64_w, i32_w]
            rfl
          refine pure_ (i := 11) (N := some 7) (v := ?_) (a' := ?_) #[true, true, true, true, true, true, true, true, true, true, true, true, false] rfl rfl (any_of HT_.out (by kernel_rfl)) (fun _ _ _ h => h) (Or.inl ⟨by rfl, ?_⟩) ?_ ?_
          rotate_left
          · intro w'
            go_simp
            with_reducible rfl
          rotate_left
          · simp only [Act.put, List.setIfInBounds_toArray, List.set_cons_zero, List.set_cons_succ, i64_w, i32_w]
            rfl
          refine pure_ (i := 12) (N := some 8) (v := ?_) (a' := ?_) #[true, true, true, true, true, true, true, true, true, true, true, true, true] rfl rfl (any_of HT_.out (by kernel_rfl)) (fun _ _ _ h => h) (Or.inl ⟨by rfl, ?_⟩) ?_ ?_
          rotate_left
          · intro w'
            go_simp
            with_reducible rfl
          rotate_left
          · simp only [Act.put, List.setIfInBounds_toArray, List.set_cons_zero, List.set_cons_succ, i64_w, i32_w]
            rfl
          refine done_ (done_of HT_.out (by kernel_rfl)) ?_
          try go_wp2
          go_ret3
          exact ⟨_, by first | rfl | (simp [errW_none, errW_some] <;> rfl) | (simp [*, errW_none, errW_some] <;> rfl) | (simp only [isEmpty_ne_, isEmpty_eq_]; rfl) | (simp [*, isEmpty_ne_, isEmpty_eq_]; done), by (with_reducible repeat (first | apply Kd.R_alloc | apply Kd.R_drewN | apply Kd.R_drew)); exact Kd.R_mono HO527.out (fun _ hk => trivial), by repeat (first | (with_reducible first | exact HB.out | apply below_alloc | apply pw_below_drewN | apply below_drew1 | refine below_set ?_ GE509.out) | exact HB.out)⟩
        · rw [if_neg c10] at H
          exact absurd H (by simp)
def kauditref25_Head.j0 : Nat → Int → Int → Bool → Int → Int → Option (List Int × Int × Int)
  | 0, _, _, _, _, _ => none
  | k + 1, x1, x2, x14, x537000, x537001 => if x14 = true then (some (([] : List Int), 0, 257)) else ((kauditref25_Put.f k (([107, 97, 117, 100, 105, 116] : List Int)) x1).bind fun t540 => ((kauditref23_Put.f k x2).bind fun t543 => (if t540.length + t543.length < 140737488355328 then ((kauditref25_Frame.f k x537000 x537001 x2 (t540 ++ t543)).bind fun bt549 => (some (bt549.1, bt549.2.1, bt549.2.2))) else (none))))
def kauditref25_Head.f (k : Nat) (a0_0 : Int) (a0_1 : Int) (a1 : Int) (a2 : Int) : Option (List Int × Int × Int) := if a1 < 1 then (kauditref25_Head.j0 k a1 a2 true a0_0 a0_1) else (kauditref25_Head.j0 k a1 a2 (decide (a1 > 1000)) a0_0 a0_1)
theorem kauditref25_Head.mono_l : ∀ k, (∀ y0 y1 y2 y3 y4, LeO (kauditref25_Head.j0 k y0 y1 y2 y3 y4) (kauditref25_Head.j0 (k + 1) y0 y1 y2 y3 y4))
  | 0 => fun _ _ _ _ _ r h => by simp [kauditref25_Head.j0] at h
  | k + 1 => by
    have ih0 := kauditref25_Head.mono_l k
    · intro y0 y1 y2 y3 y4
      unfold kauditref25_Head.j0
      repeat' first
      | (with_reducible exact ih0 _ _ _ _ _)
      | (with_reducible exact kauditref23_Put.mono _ _)
      | (with_reducible exact kauditref25_Frame.mono _ _ _ _ _)
      | (with_reducible exact kauditref25_Put.mono _ _ _)
      | (with_reducible exact LeO.refl _)
      | (with_reducible exact LeO.none _)
      | (with_reducible refine LeO.ite ?_ ?_)
      | (with_reducible refine LeO.bind ?_ (fun _ => ?_))
      | exact ih0 _ _ _ _ _
      | exact kauditref23_Put.mono _ _
      | exact kauditref25_Frame.mono _ _ _ _ _
      | exact kauditref25_Put.mono _ _ _
      | exact LeO.none _
      | refine LeO.ite ?_ ?_
      | refine LeO.bind ?_ (fun _ => ?_)
theorem kauditref25_Head.mono : ∀ a0 a1 a2 a3 k, LeO (kauditref25_Head.f k a0 a1 a2 a3) (kauditref25_Head.f (k + 1) a0 a1 a2 a3) := by
  intro a0 a1 a2 a3 k
  have ih0 := kauditref25_Head.mono_l k
  unfold kauditref25_Head.f
  repeat' first
      | (with_reducible exact ih0 _ _ _ _ _)
      | (with_reducible exact kauditref23_Put.mono _ _)
      | (with_reducible exact kauditref25_Frame.mono _ _ _ _ _)
      | (with_reducible exact kauditref25_Put.mono _ _ _)
      | (with_reducible exact LeO.refl _)
      | (with_reducible exact LeO.none _)
      | (with_reducible refine LeO.ite ?_ ?_)
      | (with_reducible refine LeO.bind ?_ (fun _ => ?_))
      | exact ih0 _ _ _ _ _
      | exact kauditref23_Put.mono _ _
      | exact kauditref25_Frame.mono _ _ _ _ _
      | exact kauditref25_Put.mono _ _ _
      | exact LeO.none _
      | refine LeO.ite ?_ ?_
      | refine LeO.bind ?_ (fun _ => ?_)
def kauditref25_Head.T3 : Bool × List (List Nat × List Nat) := (true, [([], []), ([], []), ([], []), ([2], [2]), ([], []), ([3, 4], [3, 4]), ([], []), ([6, 5], [6]), ([5, 7, 7], [5, 7]), ([0, 1, 8, 8], [0, 1, 8]), ([9], [9]), ([9], [9]), ([9], [9]), ([10, 9, 0, 1, 2, 3, 4, 5, 6, 7, 8, 9, 10, 11, 12], [10]), ([11, 13, 0, 1, 2, 3, 4, 5, 6, 7, 8, 9, 10, 11, 12, 13], [11]), ([12, 14, 0, 1, 2, 3, 4, 5, 6, 7, 8, 9, 10, 11, 12, 13, 14], [12])])
def kauditref25_Head.B3 : List Nat := [0, 0, 0, 4, 0, 28, 0, 124, 252, 511, 1023, 1023, 1023, 8191, 16383, 32767]
theorem kauditref25_Head.tab3 : rtab .any (opsOf Tryd.f52 3) = kauditref25_Head.T3 := by kernel_rfl
theorem kauditref25_Head.bits3 : waitsOk kauditref25_Head.T3.2 kauditref25_Head.B3 = true := by kernel_rfl
set_option maxHeartbeats 8000000 in
set_option maxRecDepth 100000 in
theorem kauditref25_Head.calls (k : Nat) (a0_0 : Int) (a0_1 : Int) (a1 : Int) (a2 : Int) (r1 : List Int) (r2 : Int) (r3 : Int) (w : World) (h : kauditref25_Head.f k a0_0 a0_1 a1 a2 = some (r1, r2, r3)) :
    Calls Tryd.prog 52 #[.agg #[.int .u64 a0_0, .int .u64 a0_1], .int .i64 a1, .int .u64 a2] w fun e w' => ∃ v0_ : Value, e = .returned (.tuple #[v0_, .int .u64 r2, .int .i64 r3]) ∧ Kd.R (Kd.int .u8) 5 w' w.heap.size (fun _ => True) v0_ r1 ∧ Below w.heap.size w w' := by
  have hu69 := Tryd.underlying69
  have HB := Aside0.mk (Below.refl w.heap.size w)
  have H : (if a1 < 1 then (kauditref25_Head.j0 k a1 a2 true a0_0 a0_1) else (kauditref25_Head.j0 k a1 a2 (decide (a1 > 1000)) a0_0 a0_1)) = some (r1, r2, r3) := h
  clear h
  have HC4 := Aside0.mk H
  clear H
  go_enter Tryd.func52, Tryd.ntmps52
  go_upto_region 1 with (first | ((with_reducible refine gate_dst (N := 3) rfl ?_); refine box_event ?hg (N := 3) ?hd (cs := #[.int .u64 a0_0, .int .u64 a0_1]) (t := 69) ?hr ?_; (case hd => rfl); (case hg => rfl); (case hr => first | (go_simp; done) | (go_simp; rfl)); intro gb536 hg w5 hbox hb; have n0_ := Aside0.mk (below_step (by repeat (first | (with_reducible first | exact HB.out | apply below_alloc | apply pw_below_drewN | apply below_drew1) | exact HB.out)) hb); have n1_ := Aside0.mk (hbox); have n2_ := Aside0.mk ((by rw [hg]; exact (below_size (by repeat (first | (with_reducible first | exact HB.out | apply below_alloc | apply pw_below_drewN | apply below_drew1) | exact HB.out))) : w.heap.size ≤ gb536)); have n3_ := Aside0.mk ((by rw [hg]; exact (below_size (by repeat (first | (with_reducible first | exact HB.out | apply below_alloc | apply pw_below_drewN | apply below_drew1) | exact HB.out))) : w.heap.size ≤ gb536)); clear HB; have HB := n0_; have BK536 := n1_; have GW536 := n2_; have GE536 := n3_; clear n0_ n1_ n2_ n3_; clear hb hbox hg))
  (try simp only [Act.put, List.setIfInBounds_toArray, List.set_cons_zero, List.set_cons_succ])
  go_cut [14] (fun v14 wc => ∃ (kq : Nat) (x14_3 : Bool), v14 = .bool x14_3 ∧ Aside0 (kauditref25_Head.j0 kq a1 a2 x14_3 a0_0 a0_1 = some (r1, r2, r3)) ∧ Aside0 (kq ≤ k) ∧ Aside0 (wc.heap[gb536]? = some (.cells #[.int .u64 a0_0, .int .u64 a0_1] 69 (0, 0))) ∧ Aside0 (Below w.heap.size w wc))
  case first =>
    have H := HC4.out
    clear HC4
    by_cases c6 : a1 < 1
    · rw [if_pos c6] at H
      have c6b0 : decide (a1 < 1) = true := decide_eq_true c6
      clear c6
      (first | rw [c6b0] | (simp only [i64_w, i32_w]; rw [c6b0]) | skip)
      have H' := Aside0.mk H
      clear H
      go_wp2
      go_meet
      case rel => exact ⟨_, (true), (by first | rfl | (simp; done) | (simp [*]; done) | (simp only [isEmpty_ne_]; done)), H', ⟨by first | omega | exact Nat.le_refl _⟩, ⟨by (with_reducible repeat (first | refine blk_drewN ?_ _ | refine blk_drew ?_ | refine blk_alloc ?_ _)); exact BK536.out⟩, ⟨by repeat (first | (with_reducible first | exact HB.out | apply below_alloc | apply pw_below_drewN | apply below_drew1 | refine below_set ?_ GE536.out) | exact HB.out)⟩⟩
    · rw [if_neg c6] at H
      have c6b0 : decide (a1 < 1) = false := decide_eq_false c6
      clear c6
      (first | rw [c6b0] | (simp only [i64_w, i32_w]; rw [c6b0]) | skip)
      have H' := Aside0.mk H
      clear H
      go_wp2
      go_meet
      case rel => exact ⟨_, (decide (a1 > 1000)), (by first | rfl | (simp; done) | (simp [*]; done) | (simp only [isEmpty_ne_]; done)), H', ⟨by first | omega | exact Nat.le_refl _⟩, ⟨by (with_reducible repeat (first | refine blk_drewN ?_ _ | refine blk_drew ?_ | refine blk_alloc ?_ _)); exact BK536.out⟩, ⟨by repeat (first | (with_reducible first | exact HB.out | apply below_alloc | apply pw_below_drewN | apply below_drew1 | refine below_set ?_ GE536.out) | exact HB.out)⟩⟩
  case rest =>
    clear HC4
    try clear p2
    try clear c5
    try clear c6
    try clear c6b0
    obtain ⟨kq, x14_3, rfl, HA, HJ3, BK536, HB⟩ := hcut
    cases kq with
    | zero => exact absurd HA.out (by simp [kauditref25_Head.j0])
    | succ kj3 =>
      have H := HA.out
      clear HA
      simp only [kauditref25_Head.j0] at H
      by_cases c7 : x14_3 = true
      · subst c7
        have H1 : (some (([] : List Int), 0, 257)) = some (r1, r2, r3) := by rw [if_pos rfl] at H; exact H
        clear H
        have H := H1
        clear H1
        simp only [Option.some.injEq, Prod.mk.injEq] at H
        obtain ⟨rfl, rfl, rfl⟩ := H
        go_wp2
        go_ret3
        exact ⟨_, by first | rfl | (simp [errW_none, errW_some] <;> rfl) | (simp [*, errW_none, errW_some] <;> rfl) | (simp only [isEmpty_ne_, isEmpty_eq_]; rfl) | (simp [*, isEmpty_ne_, isEmpty_eq_]; done), by first | exact Kd.R_nil _ _ _ _ _ | exact Kd.N_nil _ _ _ _ _ | exact Kd.V_nil _ _ _ _ _ | exact Kd.Q_nil _ _ _ _ _ | exact Kd.S_nil _ _ _ _ _, by repeat (first | (with_reducible first | exact HB.out | apply below_alloc | apply pw_below_drewN | apply below_drew1 | refine below_set ?_ GE536.out) | exact HB.out)⟩
      · replace c7 := Bool.eq_false_iff.mpr c7
        subst c7
        have H1 : ((kauditref25_Put.f kj3 (([107, 97, 117, 100, 105, 116] : List Int)) a1).bind fun t540 => ((kauditref23_Put.f kj3 a2).bind fun t543 => (if t540.length + t543.length < 140737488355328 then ((kauditref25_Frame.f kj3 a0_0 a0_1 a2 (t540 ++ t543)).bind fun bt549 => (some (bt549.1, bt549.2.1, bt549.2.2))) else (none)))) = some (r1, r2, r3) := by rw [if_neg (show ¬ (false = true) by decide)] at H; exact H
        clear H
        have H := H1
        clear H1
        obtain ⟨y537, hy537⟩ : ∃ y_ : List Int, y_ = (([107, 97, 117, 100, 105, 116] : List Int)) := ⟨_, rfl⟩
        replace H : ((kauditref25_Put.f kj3 y537 a1).bind fun t540 => ((kauditref23_Put.f kj3 a2).bind fun t543 => (if t540.length + t543.length < 140737488355328 then ((kauditref25_Frame.f kj3 a0_0 a0_1 a2 (t540 ++ t543)).bind fun bt549 => (some (bt549.1, bt549.2.1, bt549.2.2))) else (none)))) = some (r1, r2, r3) := by first | (rw [hy537]; with_reducible exact H) | (have H2_ := (Option.bind_some _ _).symm.trans H; rw [hy537]; with_reducible exact H2_) | (have H2_ := (Option.bind_some _ _).symm.trans H; with_reducible exact H2_) | with_reducible exact H | (rw [hy537]; exact H) | exact H
        have Ny537 := Aside0.mk hy537
        clear hy537
        replace H := Option.bind_eq_some_iff.mp H
        obtain ⟨t540, A80, H⟩ := H
        replace H : ((kauditref23_Put.f kj3 a2).bind fun t543 => (if t540.length + t543.length < 140737488355328 then ((kauditref25_Frame.f kj3 a0_0 a0_1 a2 (t540 ++ t543)).bind fun bt549 => (some (bt549.1, bt549.2.1, bt549.2.2))) else (none))) = some (r1, r2, r3) := H
        have A8 := Aside0.mk A80
        clear A80
        replace H := Option.bind_eq_some_iff.mp H
        obtain ⟨t543, A90, H⟩ := H
        replace H : (if t540.length + t543.length < 140737488355328 then ((kauditref25_Frame.f kj3 a0_0 a0_1 a2 (t540 ++ t543)).bind fun bt549 => (some (bt549.1, bt549.2.1, bt549.2.2))) else (none)) = some (r1, r2, r3) := H
        have A9 := Aside0.mk A90
        clear A90
        by_cases c10 : t540.length + t543.length < 140737488355328
        · rw [if_pos c10] at H
          have LMc10 := Aside0.mk c10
          clear c10
          obtain ⟨y546, hy546⟩ : ∃ y_ : List Int, y_ = (t540 ++ t543) := ⟨_, rfl⟩
          replace H : ((kauditref25_Frame.f kj3 a0_0 a0_1 a2 y546).bind fun bt549 => (some (bt549.1, bt549.2.1, bt549.2.2))) = some (r1, r2, r3) := by first | (rw [hy546]; with_reducible exact H) | (have H2_ := (Option.bind_some _ _).symm.trans H; rw [hy546]; with_reducible exact H2_) | (have H2_ := (Option.bind_some _ _).symm.trans H; with_reducible exact H2_) | with_reducible exact H | (rw [hy546]; exact H) | exact H
          have Ny546 := Aside0.mk hy546
          clear hy546
          replace H := Option.bind_eq_some_iff.mp H
          obtain ⟨⟨t549, t552, t553⟩, A110, H⟩ := H
          replace H : (some (t549, t552, t553)) = some (r1, r2, r3) := H
          have A11 := Aside0.mk A110
          clear A110
          simp only [Option.some.injEq, Prod.mk.injEq] at H
          obtain ⟨rfl, rfl, rfl⟩ := H
          try go_wp2
          have n0_ := Aside0.mk (blk_drew BK536.out)
          have n1_ := Aside0.mk (below_drew1 HB.out)
          clear BK536
          clear HB
          have BK536 := n0_
          have HB := n1_
          clear n0_ n1_
          refine start_ (n := 16) (S := fun w' => w'.cell? ⟨gb536, 0, none⟩ = some (.int .u64 a0_0) ∧ w'.cell? ⟨gb536, 1, none⟩ = some (.int .u64 a0_1)) (ds := []) #[false, false, false, false, false, false, false, false, false, false, false, false, false, false, false, false] (by kernel_rfl) rfl rfl ⟨(blk_cell BK536.out 0).trans rfl, (blk_cell BK536.out 1).trans rfl⟩ (fun hHeld => ?_); refine with_tabW kauditref25_Head.tab3 kauditref25_Head.bits3 (fun HT_ HW_ => ?_)
          generalize wc.drew = w12 at BK536 HB hHeld ⊢
          refine pure_ (i := 1) (N := some 16) (v := ?_) (a' := ?_) #[false, true, false, false, false, false, false, false, false, false, false, false, false, false, false, false] rfl rfl (any_of HT_.out (by kernel_rfl)) (fun _ _ _ h => h) (Or.inl ⟨by rfl, ?_⟩) ?_ ?_
          rotate_left
          · intro w'
            go_simp
            with_reducible rfl
          rotate_left
          · simp only [Act.put, List.setIfInBounds_toArray, List.set_cons_zero, List.set_cons_succ, i64_w, i32_w]
            rfl
          refine pure_ (i := 4) (N := some 19) (v := ?_) (a' := ?_) #[false, true, false, false, true, false, false, false, false, false, false, false, false, false, false, false] rfl rfl (any_of HT_.out (by kernel_rfl)) (fun _ _ _ h => h) (Or.inl ⟨by rfl, ?_⟩) ?_ ?_
          rotate_left
          · intro w'
            go_simp
            with_reducible rfl
          rotate_left
          · simp only [Act.put, List.setIfInBounds_toArray, List.set_cons_zero, List.set_cons_succ, i64_w, i32_w]
            rfl
          refine pure_ (i := 6) (N := some 21) (v := ?_) (a' := ?_) #[false, true, false, false, true, false, true, false, false, false, false, false, false, false, false, false] rfl rfl (any_of HT_.out (by kernel_rfl)) (fun _ _ _ h => h) (Or.inl ⟨by rfl, ?_⟩) ?_ ?_
          rotate_left
          · intro w'
            go_simp
            with_reducible rfl
          rotate_left
          · simp only [Act.put, List.setIfInBounds_toArray, List.set_cons_zero, List.set_cons_succ, i64_w, i32_w]
            rfl
          refine take_ (i := 0) (N := some 15) (v := ?_) (a' := ?_) #[true, true, false, false, true, false, true, false, false, false, false, false, false, false, false, false] rfl rfl (take_ofW HT_.out HW_.out (by kernel_rfl)) (fun _ _ _ h => h) (Or.inl ⟨by rfl, ?_⟩) hHeld ?_ ?_
          rotate_left
          · rintro w' ⟨s0, s1⟩
            go_simp
            with_reducible rfl
          rotate_left
          · simp only [Act.put, List.setIfInBounds_toArray, List.set_cons_zero, List.set_cons_succ, i64_w, i32_w]
            rfl
          refine one_ (i := 2) (N := some 17) #[true, true, true, false, true, false, true, false, false, false, false, false, false, false, false, false] rfl rfl (one_of HT_.out (by kernel_rfl)) (by decide) (fun K hK => ?_)
          refine lit6_step _ ?hg 17 ?hd ?hr (Below.refl _ _) (Nat.le_refl _) ?_; (case hd => rfl); (case hg => rfl); (case hr => first | (go_simp; done) | (go_simp; rfl))
          intro g6 w13 hg6 hb6 hb _
          have n1_ := Aside0.mk (blk_below (g := gb536) (o := .cells #[.int .u64 a0_0, .int .u64 a0_1] 69 (0, 0)) (by (with_reducible repeat (first | refine blk_drewN ?_ _ | refine blk_drew ?_ | refine blk_alloc ?_ _)); exact BK536.out) hb)
          have n2_ := Aside0.mk (below_step (by repeat (first | (with_reducible first | exact HB.out | apply below_alloc | apply pw_below_drewN | apply below_drew1 | refine below_set ?_ GE536.out) | exact HB.out)) hb)
          have G6 := Aside0.mk (show w.heap.size ≤ g6 from by rw [hg6]; exact below_size (by repeat (first | (with_reducible first | exact HB.out | apply below_alloc | apply pw_below_drewN | apply below_drew1 | refine below_set ?_ GE536.out) | exact HB.out)))
          have NE6 := Aside0.mk (show gb536 ≠ g6 from by rw [hg6]; exact Nat.ne_of_lt (blk_lt (by (with_reducible repeat (first | refine blk_drewN ?_ _ | refine blk_drew ?_ | refine blk_alloc ?_ _)); exact BK536.out)))
          clear BK536 HB
          have BK536 := n1_
          have HB := n2_
          have M6 := Aside0.mk hb6
          clear n1_ n2_ hb hb6 hg6
          refine hK.out _ _ ⟨(blk_cell BK536.out 0).trans rfl, (blk_cell BK536.out 1).trans rfl⟩ (fun hHeld => ?_)
          clear hK K
          refine norm_ (a' := ?_) ?_ ?_
          rotate_left
          · show Act.put _ (some 17) _ = _
            simp only [Act.put, List.setIfInBounds_toArray, List.set_cons_zero, List.set_cons_succ, i64_w, i32_w]
            rfl
          refine one_ (i := 3) (N := some 18) #[true, true, true, true, true, false, true, false, false, false, false, false, false, false, false, false] rfl rfl (one_of HT_.out (by kernel_rfl)) (by decide) (fun K hK => ?_)
          refine cv6_step rfl rfl rfl Tryd.underlying22 Tryd.underlying5 M6.out ?_
          intro w9 hm6 hgr6
          have n1_ := Aside0.mk (blk_grown BK536.out hgr6 (fun e_ => NE6.out (Option.some.inj e_)))
          have n2_ := Aside0.mk (HB.out.grown hgr6 (below_size HB.out) (fun k_ hk_ => by cases hk_; exact G6.out))
          clear BK536 HB M6
          have BK536 := n1_
          have HB := n2_
          have M6 := Aside0.mk hm6
          clear n1_ n2_ hm6 hgr6
          refine hK.out _ _ ⟨(blk_cell BK536.out 0).trans rfl, (blk_cell BK536.out 1).trans rfl⟩ (fun hHeld => ?_)
          clear hK K
          refine norm_ (a' := ?_) ?_ ?_
          rotate_left
          · show Act.put _ (some 18) _ = _
            simp only [Act.put, List.setIfInBounds_toArray, List.set_cons_zero, List.set_cons_succ, i64_w, i32_w]
            rfl
          refine one_ (i := 5) (N := some 20) #[true, true, true, true, true, true, true, false, false, false, false, false, false, false, false, false] rfl rfl (one_of HT_.out (by kernel_rfl)) (by decide) (fun K hK => ?_)
          refine goes_ Tryd.func90 (by kernel_rfl) rfl #[.slice (some ⟨g6, 0, none⟩) 6 6, .int .i64 a1] (by rfl) rfl rfl (by (try simp only [List.map_toArray, List.map_cons, List.map_nil]); first | done | rfl | (simp only [List.length_drop, List.length_take]; rfl)) ?_
          with_reducible refine (kauditref25_Put.callsM kj3 (fun k_ => k_ = g6) (.slice (some ⟨g6, 0, none⟩) 6 6) y537 a1 t540 w _ ?side1 ?side2 A8.out).mono ?_
          (case side1 => repeat (first | (with_reducible first | exact HB.out | apply below_alloc | apply pw_below_drewN | apply below_drew1 | refine below_set ?_ GE536.out) | exact HB.out))
          (case side2 => exact .inr ⟨⟨g6, rfl, rfl, G6.out, M6.out⟩, Ny537.out⟩)
          rintro e w16 ⟨v541, rfl, ho0, hb, hkp⟩
          refine ⟨_, rfl, ?_⟩
          have n0_ := Aside0.mk (blk_kept BK536.out hkp (fun hs_ => NE6.out hs_))
          have n1_ := Aside0.mk (Kd.R_mono (ok' := fun k_ => True) (RM_R ho0 (put_ne kj3 a1 _ (by have h_ := A8.out; rw [Ny537.out] at h_; exact h_))) (fun k_ hk_ => trivial))
          have n2_ := Aside0.mk (hb)
          clear BK536
          clear HB
          clear M6
          have BK536 := n0_
          have HO542 := n1_
          have HB := n2_
          clear n0_ n1_ n2_
          (try clear hb)
          (try clear hkp)
          (try clear ho0)
          refine hK.out _ _ ⟨(blk_cell BK536.out 0).trans rfl, (blk_cell BK536.out 1).trans rfl⟩ (fun hHeld => ?_)
          clear hK K
          refine norm_ (a' := ?_) ?_ ?_
          rotate_left
          · show Act.put _ (some 20) _ = _
            simp only [Act.put, List.setIfInBounds_toArray, List.set_cons_zero, List.set_cons_succ, i64_w, i32_w]
            rfl
          refine one_ (i := 7) (N := some 22) #[true, true, true, true, true, true, true, true, false, false, false, false, false, false, false, false] rfl rfl (one_of HT_.out (by kernel_rfl)) (by decide) (fun K hK => ?_)
          refine goes_ Tryd.func88 (by kernel_rfl) rfl #[.int .u64 a2] (by rfl) rfl rfl (by (try simp only [List.map_toArray, List.map_cons, List.map_nil]); first | done | rfl | (simp only [List.length_drop, List.length_take]; rfl)) ?_
          with_reducible refine (kauditref23_Put.calls kj3 a2 t543 _ A9.out).mono ?_
          rintro e w17 ⟨v544, rfl, ho0, hb⟩
          refine ⟨_, rfl, ?_⟩
          have n0_ := Aside0.mk (Kd.R_elder' (by (with_reducible repeat (first | apply Kd.R_alloc | apply Kd.R_drewN | apply Kd.R_drew)); exact HO542.out) (Kd.R_base ho0) hb)
          have n1_ := Aside0.mk (Kd.R_lower (Kd.R_new' ho0 (Kd.R_lt (by (with_reducible repeat (first | apply Kd.R_alloc | apply Kd.R_drewN | apply Kd.R_drew)); exact HO542.out))) (below_size (by repeat (first | (with_reducible first | exact HB.out | apply below_alloc | apply pw_below_drewN | apply below_drew1 | refine below_set ?_ GE536.out) | exact HB.out))))
          have n2_ := Aside0.mk (blk_below (g := gb536) (o := .cells #[.int .u64 a0_0, .int .u64 a0_1] 69 (0, 0)) (by (with_reducible repeat (first | refine blk_drewN ?_ _ | refine blk_drew ?_ | refine blk_alloc ?_ _)); exact BK536.out) hb)
          have n3_ := Aside0.mk (below_step (by repeat (first | (with_reducible first | exact HB.out | apply below_alloc | apply pw_below_drewN | apply below_drew1 | refine below_set ?_ GE536.out) | exact HB.out)) hb)
          clear HO542
          clear BK536
          clear HB
          have HO542 := n0_
          have HO545 := n1_
          have BK536 := n2_
          have HB := n3_
          clear n0_ n1_ n2_ n3_
          (try clear hb)
          (try clear hb2)
          (try clear hk)
          (try clear hi)
          (try clear ho0)
          obtain ⟨Ao19, co19, eo19⟩ := Kd.R_slice HO545.out
          (first | subst eo19 | (injection eo19 with f1_ f2_ f3_; have f4_ := f1_.symm; have f5_ := f3_.symm; clear f1_ f2_ f3_; subst f4_; subst f5_))
          refine hK.out _ _ ⟨(blk_cell BK536.out 0).trans rfl, (blk_cell BK536.out 1).trans rfl⟩ (fun hHeld => ?_)
          clear hK K
          refine norm_ (a' := ?_) ?_ ?_
          rotate_left
          · show Act.put _ (some 22) _ = _
            simp only [Act.put, List.setIfInBounds_toArray, List.set_cons_zero, List.set_cons_succ, i64_w, i32_w]
            rfl
          refine one_ (i := 8) (N := some 23) #[true, true, true, true, true, true, true, true, true, false, false, false, false, false, false, false] rfl rfl (one_of HT_.out (by kernel_rfl)) (by decide) (fun K hK => ?_)
          refine Kd.R_append_rows_step (Kd.int .u8) (w0 := w) w.heap.size (by rfl) (.tmp 20) (.tmp 22) 22 5 (.int .u8 0) 1 rfl Tryd.underlying22 info5 rfl (by decide) (by omega) v541 t540 t543 _ _ _ (fun k_ => some k_ ≠ (.slice Ao19 t543.length co19 : Value).ownBlock) (fun _ => False) rfl rfl ?aO ?aR (fun _ _ h => h) (fun _ h => h.elim) ?aF ?aB ?aS ?aL ?_
          (case aR => repeat (first | exact (Kd.R_reads' HO545.out).2.2 | (with_reducible refine Kd.C_alloc ?_ _) | (with_reducible refine Kd.C_drewN ?_ _) | (with_reducible refine Kd.C_drew ?_)))
          (case aB => exact (by repeat (first | (with_reducible first | exact HB.out | apply below_alloc | apply pw_below_drewN | apply below_drew1 | refine below_set ?_ GE536.out) | exact HB.out)))
          (case aF => exact (fun k_ hk => Kd.fresh' (Kd.R_lt (by (with_reducible repeat (first | apply Kd.R_alloc | apply Kd.R_drewN | apply Kd.R_drew)); exact HO545.out)) k_ hk))
          (case aO => exact (by (with_reducible repeat (first | apply Kd.R_alloc | apply Kd.R_drewN | apply Kd.R_drew)); exact Kd.R_mono HO542.out (fun _ hk => hk.2)))
          (case aS => exact (below_size (by repeat (first | (with_reducible first | exact HB.out | apply below_alloc | apply pw_below_drewN | apply below_drew1 | refine below_set ?_ GE536.out) | exact HB.out))))
          (case aL => have := LMc10.out; omega)
          intro v547 w18 ho hb hg hat
          rw [← Ny546.out] at ho
          have n0_ := Aside0.mk (blk_grown (g := gb536) (o := .cells #[.int .u64 a0_0, .int .u64 a0_1] 69 (0, 0)) (by (with_reducible repeat (first | refine blk_drewN ?_ _ | refine blk_drew ?_ | refine blk_alloc ?_ _)); exact BK536.out) hg (Kd.R_ne HO542.out BK536.out (by decide)))
          have n1_ := Aside0.mk (Kd.R_after (ok := (fun _ => True)) (by (with_reducible repeat (first | apply Kd.R_alloc | apply Kd.R_drewN | apply Kd.R_drew)); exact HO545.out) hg hat)
          have n2_ := Aside0.mk (hb)
          have n3_ := Aside0.mk (ho)
          clear BK536
          clear HO545
          clear HB
          clear HO542
          have BK536 := n0_
          have HO545 := n1_
          have HB := n2_
          have HO548 := n3_
          clear n0_ n1_ n2_ n3_
          clear ho hb hg hat
          obtain ⟨Ao20, co20, eo20⟩ := Kd.R_slice HO548.out
          (first | subst eo20 | (injection eo20 with f1_ f2_ f3_; have f4_ := f1_.symm; have f5_ := f3_.symm; clear f1_ f2_ f3_; subst f4_; subst f5_))
          refine hK.out _ _ ⟨(blk_cell BK536.out 0).trans rfl, (blk_cell BK536.out 1).trans rfl⟩ (fun hHeld => ?_)
          clear hK K
          refine norm_ (a' := ?_) ?_ ?_
          rotate_left
          · show Act.put _ (some 23) _ = _
            simp only [Act.put, List.setIfInBounds_toArray, List.set_cons_zero, List.set_cons_succ, i64_w, i32_w]
            rfl
          refine one_ (i := 9) (N := some 24) #[true, true, true, true, true, true, true, true, true, true, false, false, false, false, false, false] rfl rfl (one_of HT_.out (by kernel_rfl)) (by decide) (fun K hK => ?_)
          refine goes_ Tryd.func49 (by kernel_rfl) rfl #[.agg #[.int .u64 a0_0, .int .u64 a0_1], .int .u64 a2, .slice Ao20 y546.length co20] (by rfl) rfl rfl (by (try simp only [List.map_toArray, List.map_cons, List.map_nil]); first | done | rfl | (simp only [List.length_drop, List.length_take]; rfl)) ?_
          with_reducible refine (kauditref25_Frame.calls kj3 a0_0 a0_1 a2 _ _ y546 t549 t552 t553 _ ?side1 ?side2 A11.out).mono ?_
          (case side1 => repeat (first | exact (Kd.R_reads' HO548.out).2.2 | (with_reducible refine Kd.C_alloc ?_ _) | (with_reducible refine Kd.C_drewN ?_ _) | (with_reducible refine Kd.C_drew ?_)))
          (case side2 => exact (Kd.R_reads' HO548.out).2.1)
          rintro e w21 ⟨v550, rfl, ho0, hb⟩
          refine ⟨_, rfl, ?_⟩
          have n0_ := Aside0.mk (Kd.R_elder' (by (with_reducible repeat (first | apply Kd.R_alloc | apply Kd.R_drewN | apply Kd.R_drew)); exact HO545.out) (Kd.R_base ho0) hb)
          have n1_ := Aside0.mk (Kd.R_elder' (by (with_reducible repeat (first | apply Kd.R_alloc | apply Kd.R_drewN | apply Kd.R_drew)); exact HO548.out) (Kd.R_base ho0) hb)
          have n2_ := Aside0.mk (Kd.R_lower (Kd.R_new' (Kd.R_new' ho0 (Kd.R_lt (by (with_reducible repeat (first | apply Kd.R_alloc | apply Kd.R_drewN | apply Kd.R_drew)); exact HO545.out))) (Kd.R_lt (by (with_reducible repeat (first | apply Kd.R_alloc | apply Kd.R_drewN | apply Kd.R_drew)); exact HO548.out))) (below_size (by repeat (first | (with_reducible first | exact HB.out | apply below_alloc | apply pw_below_drewN | apply below_drew1 | refine below_set ?_ GE536.out) | exact HB.out))))
          have n3_ := Aside0.mk (blk_below (g := gb536) (o := .cells #[.int .u64 a0_0, .int .u64 a0_1] 69 (0, 0)) (by (with_reducible repeat (first | refine blk_drewN ?_ _ | refine blk_drew ?_ | refine blk_alloc ?_ _)); exact BK536.out) hb)
          have n4_ := Aside0.mk (below_step (by repeat (first | (with_reducible first | exact HB.out | apply below_alloc | apply pw_below_drewN | apply below_drew1 | refine below_set ?_ GE536.out) | exact HB.out)) hb)
          clear HO545
          clear HO548
          clear BK536
          clear HB
          have HO545 := n0_
          have HO548 := n1_
          have HO551 := n2_
          have BK536 := n3_
          have HB := n4_
          clear n0_ n1_ n2_ n3_ n4_
          (try clear hb)
          (try clear hb2)
          (try clear hk)
          (try clear hi)
          (try clear ho0)
          refine hK.out _ _ ⟨(blk_cell BK536.out 0).trans rfl, (blk_cell BK536.out 1).trans rfl⟩ (fun hHeld => ?_)
          clear hK K
          refine norm_ (a' := ?_) ?_ ?_
          rotate_left
          · show Act.put _ (some 24) _ = _
            simp only [Act.put, List.setIfInBounds_toArray, List.set_cons_zero, List.set_cons_succ, i64_w, i32_w]
            rfl
          refine pure_ (i := 10) (N := some 25) (v := ?_) (a' := ?_) #[true, true, true, true, true, true, true, true, true, true, true, false, false, false, false, false] rfl rfl (any_of HT_.out (by kernel_rfl)) (fun _ _ _ h => h) (Or.inl ⟨by rfl, ?_⟩) ?_ ?_
          rotate_left
          · intro w'
            go_simp
            with_reducible rfl
          rotate_left
          · simp only [Act.put, List.setIfInBounds_toArray, List.set_cons_zero, List.set_cons_succ, i64_w, i32_w]
            rfl
          refine pure_ (i := 11) (N := some 26) (v := ?_) (a' := ?_) #[true, true, true, true, true, true, true, true, true, true, true, true, false, false, false, false] rfl rfl (any_of HT_.out (by kernel_rfl)) (fun _ _ _ h => h) (Or.inl ⟨by rfl, ?_⟩) ?_ ?_
          rotate_left
          · intro w'
            go_simp
            with_reducible rfl
          rotate_left
          · simp only [Act.put, List.setIfInBounds_toArray, List.set_cons_zero, List.set_cons_succ, i64_w, i32_w]
            rfl
          refine pure_ (i := 12) (N := some 27) (v := ?_) (a' := ?_) #[true, true, true, true, true, true, true, true, true, true, true, true, true, false, false, false] rfl rfl (any_of HT_.out (by kernel_rfl)) (fun _ _ _ h => h) (Or.inl ⟨by rfl, ?_⟩) ?_ ?_
          rotate_left
          · intro w'
            go_simp
            with_reducible rfl
          rotate_left
          · simp only [Act.put, List.setIfInBounds_toArray, List.set_cons_zero, List.set_cons_succ, i64_w, i32_w]
            rfl
          refine pure_ (i := 13) (N := some 6) (v := ?_) (a' := ?_) #[true, true, true, true, true, true, true, true, true, true, true, true, true, true, false, false] rfl rfl (any_of HT_.out (by kernel_rfl)) (fun _ _ _ h => h) (Or.inl ⟨by rfl, ?_⟩) ?_ ?_
          rotate_left
          · intro w'
            go_simp
            with_reducible rfl
          rotate_left
          · simp only [Act.put, List.setIfInBounds_toArray, List.set_cons_zero, List.set_cons_succ, i64_w, i32_w]
            rfl
          refine pure_ (i := 14) (N := some 7) (v := ?_) (a' := ?_) #[true, true, true, true, true, true, true, true, true, true, true, true, true, true, true, false] rfl rfl (any_of HT_.out (by kernel_rfl)) (fun _ _ _ h => h) (Or.inl ⟨by rfl, ?_⟩) ?_ ?_
          rotate_left
          · intro w'
            go_simp
            with_reducible rfl
          rotate_left
          · simp only [Act.put, List.setIfInBounds_toArray, List.set_cons_zero, List.set_cons_succ, i64_w, i32_w]
            rfl
          refine pure_ (i := 15) (N := some 8) (v := ?_) (a' := ?_) #[true, true, true, true, true, true, true, true, true, true, true, true, true, true, true, true] rfl rfl (any_of HT_.out (by kernel_rfl)) (fun _ _ _ h => h) (Or.inl ⟨by rfl, ?_⟩) ?_ ?_
          rotate_left
          · intro w'
            go_simp
            with_reducible rfl
          rotate_left
          · simp only [Act.put, List.setIfInBounds_toArray, List.set_cons_zero, List.set_cons_succ, i64_w, i32_w]
            rfl
          refine done_ (done_of HT_.out (by kernel_rfl)) ?_
          try go_wp2
          go_ret3
          exact ⟨_, by first | rfl | (simp [errW_none, errW_some] <;> rfl) | (simp [*, errW_none, errW_some] <;> rfl) | (simp only [isEmpty_ne_, isEmpty_eq_]; rfl) | (simp [*, isEmpty_ne_, isEmpty_eq_]; done), by (with_reducible repeat (first | apply Kd.R_alloc | apply Kd.R_drewN | apply Kd.R_drew)); exact Kd.R_mono HO551.out (fun _ hk => trivial), by repeat (first | (with_reducible first | exact HB.out | apply below_alloc | apply pw_below_drewN | apply below_drew1 | refine below_set ?_ GE536.out) | exact HB.out)⟩
        · rw [if_neg c10] at H
          exact absurd H (by simp)
end Go.Proofs.YtjnlmmjadlidlaaDoor.PRec
end
section
namespace Go.Proofs.YtjnlmmjadlidlaaDoor.Pure3
open Go.RowKit Go.Proofs.YtjnlmmjadlidlaaDoor.PRec Go.Proofs.YtjnlmmjadlidlaaDoorW.PrintWords
theorem w64 {x : Int} (h0 : -9223372036854775808 ≤ x) (h1 : x ≤ 9223372036854775807) : wrap64 x = x := by unfold wrap64; omega
theorem wsucc {i n : Nat} (h : i < n) (hn : n ≤ 9223372036854775807) : wrap64 ((i : Int) + 1) = ((i + 1 : Nat) : Int) := by rw [w64 (by omega) (by omega)]; omega
theorem empty_toList : (⟨#[]⟩ : ByteArray).toList = [] := by simp [ByteArray.toList_eq]
end Go.Proofs.YtjnlmmjadlidlaaDoor.Pure3
end
section
namespace Go.Proofs.YtjnlmmjadlidlaaDoor.Pure3
open Go.RowKit Go.Proofs.YtjnlmmjadlidlaaDoor.PRec Go.Proofs.YtjnlmmjadlidlaaDoorW.PrintWords
def putB (d : Int) : List Int := [(shr .u64 d 56) % 256, (shr .u64 d 48) % 256, (shr .u64 d 40) % 256, (shr .u64 d 32) % 256, (shr .u64 d 24) % 256, (shr .u64 d 16) % 256, (shr .u64 d 8) % 256, (shr .u64 d 0) % 256]
theorem putB_len (d : Int) : (putB d).length = 8 := rfl
theorem putB_bytes (d : Int) : Bytes (putB d) := by
  intro x hx
  unfold putB at hx
  simp only [List.mem_cons, List.not_mem_nil, or_false] at hx
  rcases hx with rfl | rfl | rfl | rfl | rfl | rfl | rfl | rfl <;> omega
theorem put_at (d : Int) (i : Nat) (hi : i < 8) : (shr .u64 d (wrap64 (56 - (wrap64 (8 * (i : Int)))))) % 256 = rd (putB d) (i : Int) ∧ (0 ≤ wrap64 (56 - (wrap64 (8 * (i : Int))))) := by
  rw [w64 (x := 8 * (i : Int)) (by omega) (by omega), w64 (by omega) (by omega)]
  refine ⟨?_, by omega⟩
  match i, hi with
  | 0, _ => rfl
  | 1, _ => rfl
  | 2, _ => rfl
  | 3, _ => rfl
  | 4, _ => rfl
  | 5, _ => rfl
  | 6, _ => rfl
  | 7, _ => rfl
  | i + 8, hi => omega
theorem set_take (l m : List Int) (h : l.length = m.length) (i : Nat) (hi : i < m.length) (hl : l.take i = m.take i) : (l.set i (rd m (i : Int))).take (i + 1) = m.take (i + 1) := by
  have e : rd m (i : Int) = m[i] := by unfold rd; rw [Int.toNat_natCast, List.getD_eq_getElem?_getD, List.getElem?_eq_getElem hi, Option.getD_some]
  rw [e]
  apply List.ext_getElem
  · simp [h]
  · intro j h1 h2
    simp only [List.getElem_take]
    by_cases hj : j = i
    · subst hj; simp
    · rw [List.getElem_set_ne (by omega)]
      have hj2 : j < i := by simp at h2; omega
      have := congrArg (fun q => q[j]?) hl
      simp only [List.getElem?_take_of_lt hj2] at this
      rw [List.getElem?_eq_getElem (by omega), List.getElem?_eq_getElem (by omega)] at this
      exact Option.some.inj this
theorem put_l0 (x : Int) (d : Nat) : ∀ (k i : Nat) (l : List Int), i + d = 8 → d < k → l.length = 8 → l.take i = (putB x).take i → digest_Put.l0 k x l 8 (i : Int) = some (putB x) := by
  induction d with
  | zero =>
    intro k i l hi hk hl ht
    obtain ⟨k, rfl⟩ : ∃ q, k = q + 1 := ⟨k - 1, by omega⟩
    obtain rfl : i = 8 := by omega
    simp only [digest_Put.l0]
    rw [if_neg (by decide)]
    rw [List.take_of_length_le (by omega), List.take_of_length_le (by rw [putB_len]; omega)] at ht
    rw [ht]
  | succ d ih =>
    intro k i l hi hk hl ht
    obtain ⟨k, rfl⟩ : ∃ q, k = q + 1 := ⟨k - 1, by omega⟩
    obtain ⟨e1, e2⟩ := put_at x i (by omega)
    simp only [digest_Put.l0]
    rw [if_pos (by omega), if_pos e2, if_pos (by omega), if_pos (by omega), e1, wsucc (n := 8) (by omega) (by omega), Int.toNat_natCast]
    exact ih k (i + 1) _ (by omega) (by omega) (by rw [List.length_set]; exact hl) (set_take l (putB x) (by rw [hl, putB_len]) i (by rw [putB_len]; omega) ht)
theorem put_ev (x : Int) : Ev (fun k => digest_Put.f k x) (putB x) := by
  refine ⟨9, fun k hk => ?_⟩
  show digest_Put.f k x = _
  unfold digest_Put.f
  rw [if_pos (by decide)]
  simp only [Option.bind_some]
  exact put_l0 x 8 k 0 (List.replicate 8 0) (by omega) (by omega) rfl rfl
theorem rput_at (d : Int) (i : Nat) (hi : i < 8) : [(shr .u64 d (wrap64 (8 * ((7 - i : Nat) : Int)))) % 256] = [rd (putB d) (i : Int)] ∧ (0 ≤ wrap64 (8 * ((7 - i : Nat) : Int))) := by
  rw [w64 (x := 8 * ((7 - i : Nat) : Int)) (by omega) (by omega)]
  refine ⟨?_, by omega⟩
  match i, hi with
  | 0, _ => rfl
  | 1, _ => rfl
  | 2, _ => rfl
  | 3, _ => rfl
  | 4, _ => rfl
  | 5, _ => rfl
  | 6, _ => rfl
  | 7, _ => rfl
  | i + 8, hi => omega
theorem rput_l0 (x : Int) (d : Nat) : ∀ (k i : Nat) (z : Int), i + d = 8 → d < k → z = 7 - (i : Int) → kauditref23_Put.l0 k x ((putB x).take i) z = some (putB x) := by
  induction d with
  | zero =>
    intro k i z hi hk hz
    obtain ⟨k, rfl⟩ : ∃ q, k = q + 1 := ⟨k - 1, by omega⟩
    obtain rfl : i = 8 := by omega
    simp only [kauditref23_Put.l0]
    rw [if_neg (by omega), List.take_of_length_le (by rw [putB_len]; omega)]
  | succ d ih =>
    intro k i z hi hk hz
    obtain ⟨k, rfl⟩ : ∃ q, k = q + 1 := ⟨k - 1, by omega⟩
    obtain rfl : z = ((7 - i : Nat) : Int) := by omega
    obtain ⟨e1, e2⟩ := rput_at x i (by omega)
    have hlen : ((putB x).take i).length ≤ 8 := by rw [List.length_take, putB_len]; omega
    have ht : (putB x).take i ++ [rd (putB x) (i : Int)] = (putB x).take (i + 1) := by
      have hi' : i < (putB x).length := by rw [putB_len]; omega
      have e : rd (putB x) (i : Int) = (putB x)[i] := by unfold rd; rw [Int.toNat_natCast, List.getD_eq_getElem?_getD, List.getElem?_eq_getElem hi', Option.getD_some]
      rw [e, List.take_succ_eq_append_getElem hi']
    simp only [kauditref23_Put.l0]
    rw [if_pos (by omega), if_pos e2, if_pos (by omega), e1, ht, w64 (by omega) (by omega)]
    exact ih k (i + 1) _ (by omega) (by omega) (by omega)
theorem rput_ev (x : Int) : Ev (fun k => kauditref23_Put.f k x) (putB x) := by
  refine ⟨9, fun k hk => ?_⟩
  show kauditref23_Put.f k x = _
  unfold kauditref23_Put.f
  exact rput_l0 x 8 k 0 7 (by omega) (by omega) (by omega)
def finM (n m : Int) (v : Int × Int × Int × Int) : Int :=
  let u := wordV v (Go.bits .or .u64 m n)
  let x := iterV 4 (u.1, u.2.1, Go.bits .xor .u64 u.2.2.1 255, u.2.2.2)
  Go.bits .xor .u64 (Go.bits .xor .u64 (Go.bits .xor .u64 x.1 x.2.1) x.2.2.1) x.2.2.2
def refV (n : Int) : Nat → List Int → Int → Int × Int × Int × Int → Int
  | _, [], m, v => finM n m v
  | r, x :: l, m, v => if r = 7 then refV n 0 l 0 (wordV v (Go.bits .or .u64 m (shl .u64 x (8 * (r : Int))))) else refV n (r + 1) l (Go.bits .or .u64 m (shl .u64 x (8 * (r : Int)))) v
theorem refV_lt (n : Int) (v : Int × Int × Int × Int) : ∀ (l : List Int) (r : Nat) (m : Int), r + l.length < 8 → refV n r l m v = finM n (leAcc r l m) v := by
  intro l
  induction l with
  | nil => intro r m _; rfl
  | cons x l ih =>
    intro r m h
    simp only [List.length_cons] at h
    simp only [refV, leAcc]
    rw [if_neg (by omega)]
    exact ih (r + 1) _ (by omega)
theorem refV_ge (n : Int) (v : Int × Int × Int × Int) (d : Nat) : ∀ (l : List Int) (r : Nat) (m : Int), r + (d + 1) = 8 → d + 1 ≤ l.length → refV n r l m v = refV n 0 (l.drop (d + 1)) 0 (wordV v (leAcc r (l.take (d + 1)) m)) := by
  induction d with
  | zero =>
    intro l r m hr hl
    obtain rfl : r = 7 := by omega
    cases l with
    | nil => simp at hl
    | cons x l => simp [refV, leAcc]
  | succ d ih =>
    intro l r m hr hl
    cases l with
    | nil => simp at hl
    | cons x l =>
      simp only [List.length_cons] at hl
      rw [List.drop_succ_cons, List.take_succ_cons]
      simp only [refV, leAcc]
      rw [if_neg (by omega)]
      exact ih l (r + 1) _ (by omega) (by omega)
theorem refV_sum (n : Int) (q : Nat) : ∀ (l : List Int) (v : Int × Int × Int × Int), l.length / 8 = q → refV n 0 l 0 v = sumFrom n q l v := by
  induction q with
  | zero =>
    intro l v h
    rw [refV_lt n v l 0 0 (by omega)]
    simp only [sumFrom, finV, finM, leNum]
  | succ q ih =>
    intro l v h
    rw [refV_ge n v 7 l 0 0 (by omega) (by omega)]
    rw [ih _ _ (by rw [List.length_drop]; omega)]
    simp only [sumFrom, leNum, Nat.reduceAdd]
theorem take_f (v0 v1 v2 v3 m : Int) : kauditref23_words_take.f v0 v1 v2 v3 m = some (wordV (v0, v1, v2, v3) m) := by
  unfold kauditref23_words_take.f kauditref23_words_rounds.f
  rw [if_pos ⟨by decide, by decide⟩]
  rfl
theorem rounds4_f (v0 v1 v2 v3 : Int) : kauditref23_words_rounds.f v0 v1 v2 v3 4 = some (iterV 4 (v0, v1, v2, v3)) := by
  unfold kauditref23_words_rounds.f
  rw [if_pos ⟨by decide, by decide⟩]
  rfl
theorem take_g (v : Int × Int × Int × Int) (m : Int) : kauditref23_words_take.f v.1 v.2.1 v.2.2.1 v.2.2.2 m = some (wordV v m) := by
  obtain ⟨v0, v1, v2, v3⟩ := v
  exact take_f v0 v1 v2 v3 m
theorem rsum_l0 (l : List Int) (hl : l.length ≤ 140737488355328) (hb : Bytes l) (d : Nat) : ∀ (k i : Nat) (m : Int) (v : Int × Int × Int × Int), i + d = l.length → d < k →
    kauditref23_Sum.l0 k l m l (l.length : Int) (i : Int) v.1 v.2.1 v.2.2.1 v.2.2.2 = some (refV (lenWord (l.length : Int)) (i % 8) (l.drop i) m v) := by
  induction d with
  | zero =>
    intro k i m v hi hk
    obtain ⟨k, rfl⟩ : ∃ q, k = q + 1 := ⟨k - 1, by omega⟩
    simp only [kauditref23_Sum.l0]
    rw [if_neg (by omega), List.drop_of_length_le (by omega), take_g]
    simp only [rounds4_f, Option.bind_some, refV, finM, lenWord]
  | succ d ih =>
    intro k i m v hi hk
    obtain ⟨k, rfl⟩ : ∃ q, k = q + 1 := ⟨k - 1, by omega⟩
    have hx : 0 ≤ rd l (i : Int) ∧ rd l (i : Int) ≤ 255 := hb _ (List.mem_of_mem_drop (i := i) (by rw [drop_rdI l i (by omega)]; exact List.mem_cons_self ..))
    have ht : Int.tmod (i : Int) 8 = ((i % 8 : Nat) : Int) := rfl
    simp only [kauditref23_Sum.l0]
    rw [ht, w64 (x := 8 * ((i % 8 : Nat) : Int)) (by omega) (by omega), if_pos (by omega), if_pos (by omega), if_pos (by omega), if_pos (by omega), le_u64 hx.1 hx.2, wsucc (n := l.length) (by omega) (by omega), drop_rdI l i (by omega)]
    obtain ⟨M, hM⟩ : ∃ M, M = Go.bits .or .u64 m (shl .u64 (rd l (i : Int)) (8 * ((i % 8 : Nat) : Int))) := ⟨_, rfl⟩
    rw [← hM]
    by_cases h7 : i % 8 = 7
    · simp only [refV]
      rw [if_pos (by omega), take_g, if_pos h7, ← hM]
      obtain ⟨u, hu⟩ : ∃ u, u = wordV v M := ⟨_, rfl⟩
      rw [← hu, Option.bind_some]
      have := ih k (i + 1) 0 u (by omega) (by omega)
      rw [show (i + 1) % 8 = 0 from by omega] at this
      exact this
    · rw [if_neg (by omega)]
      simp only [refV]
      rw [if_neg h7, ← hM]
      have := ih k (i + 1) M v (by omega) (by omega)
      rw [show (i + 1) % 8 = i % 8 + 1 from by omega] at this
      exact this
theorem rsum_ev (x0 x1 : Int) (l : List Int) (hl : l.length ≤ 140737488355328) (hb : Bytes l) : Ev (fun k => kauditref23_Sum.f k x0 x1 l) (sumV x0 x1 l) := by
  refine ⟨l.length + 1, fun k hk => ?_⟩
  show kauditref23_Sum.f k x0 x1 l = _
  unfold kauditref23_Sum.f
  refine (rsum_l0 l hl hb l.length k 0 0 (initV x0 x1) (by omega) (by omega)).trans ?_
  rw [List.drop_zero, Nat.zero_mod, refV_sum _ _ _ _ rfl]
  simp only [sumV]
theorem bytes_append {a b : List Int} (ha : Bytes a) (hb : Bytes b) : Bytes (a ++ b) := fun x hx => (List.mem_append.1 hx).elim (ha x) (hb x)
def chainV (x0 x1 b : Int) (p : List Int) : Int := sumV x0 x1 (putB b ++ p)
theorem chain_ev (x0 x1 b : Int) (p : List Int) (hl : p.length ≤ 140737488351232) (hb : Bytes p) : Ev (fun k => digest_Chain.f k x0 x1 b p) (chainV x0 x1 b p) := by
  have h1 : (putB b ++ p).length ≤ 140737488355328 := by rw [List.length_append, putB_len]; omega
  refine Ev.bind (put_ev b) (Ev.congr (fun k => ?_) (Ev.now _))
  rw [if_pos (by rw [putB_len]; omega)]
  unfold digest_Sum.f digest_sum.f
  rw [if_pos ⟨bytes_append (putB_bytes b) hb, h1⟩]
  rfl
theorem rchain_ev (x0 x1 b : Int) (p : List Int) (hl : p.length ≤ 140737488351232) (hb : Bytes p) : Ev (fun k => kauditref23_Chain.f k x0 x1 b p) (chainV x0 x1 b p) := by
  have h1 : (putB b ++ p).length ≤ 140737488355328 := by rw [List.length_append, putB_len]; omega
  refine Ev.bind (rput_ev b) (Ev.congr (fun k => if_pos (by rw [putB_len]; omega)) ?_)
  exact Ev.bind (rsum_ev x0 x1 _ h1 (bytes_append (putB_bytes b) hb)) (Ev.now _)
def four (n : Int) : List Int := [(n / 16777216) % 256, (n / 65536) % 256, (n / 256) % 256, (n) % 256]
def frameV (x0 x1 b : Int) (p : List Int) : List Int × Int × Int :=
  if p.length < 1 ∨ p.length > 16384 then ([], 0, 256) else ((four p.length ++ p) ++ putB (chainV x0 x1 b p), chainV x0 x1 b p, 0)
theorem frame_ev (x0 x1 b : Int) (p : List Int) (hl : p.length ≤ 140737488351232) (hb : Bytes p) : Ev (fun k => logfile_Frame.f k x0 x1 b p) (frameV x0 x1 b p) := by
  unfold logfile_Frame.f frameV
  by_cases h1 : p.length < 1
  · rw [if_pos (.inl h1)]
    refine Ev.congr (fun k => if_pos (by omega)) (Ev.step (f := fun _ => some ([], 0, 256)) (fun k => ?_) (Ev.now _))
    simp only [logfile_Frame.j0]
    rfl
  · refine Ev.congr (fun k => if_neg (by omega)) ?_
    by_cases h2 : p.length > 16384
    · rw [if_pos (.inr h2)]
      refine Ev.step (f := fun _ => some ([], 0, 256)) (fun k => ?_) (Ev.now _)
      simp only [logfile_Frame.j0]
      rw [if_pos (decide_eq_true (by omega))]
    · rw [if_neg (by omega)]
      refine Ev.step (f := fun k => (digest_Chain.f k x0 x1 b p).bind fun t443 => ((some (four (p.length : Int))).bind fun y444 => (if y444.length + p.length < 140737488355328 then ((some (y444 ++ p : List Int)).bind fun y447 => ((digest_Put.f k t443).bind fun t450 => (if y447.length + t450.length < 140737488355328 then (some ((y447 ++ t450), t443, 0)) else (none)))) else (none)))) (fun k => ?_) ?_
      · simp only [logfile_Frame.j0]
        rw [if_neg (by rw [decide_eq_false (by omega)]; exact Bool.false_ne_true)]
        rfl
      · refine Ev.bind (chain_ev x0 x1 b p hl hb) ?_
        simp only [Option.bind_some]
        refine Ev.congr (fun k => if_pos (by show 4 + p.length < _; omega)) ?_
        refine Ev.bind (put_ev _) (Ev.congr (fun k => if_pos ?_) (Ev.now _))
        rw [List.length_append, putB_len]
        show 4 + p.length + 8 < _
        omega
theorem rframe_ev (x0 x1 b : Int) (p : List Int) (hl : p.length ≤ 140737488351232) (hb : Bytes p) : Ev (fun k => kauditref25_Frame.f k x0 x1 b p) (frameV x0 x1 b p) := by
  unfold kauditref25_Frame.f frameV
  by_cases h1 : p.length < 1
  · rw [if_pos (.inl h1)]
    refine Ev.congr (fun k => if_pos (by omega)) (Ev.step (f := fun _ => some ([], 0, 256)) (fun k => ?_) (Ev.now _))
    simp only [kauditref25_Frame.j0]
    rfl
  · refine Ev.congr (fun k => if_neg (by omega)) ?_
    by_cases h2 : p.length > 16384
    · rw [if_pos (.inr h2)]
      refine Ev.step (f := fun _ => some ([], 0, 256)) (fun k => ?_) (Ev.now _)
      simp only [kauditref25_Frame.j0]
      rw [if_pos (decide_eq_true (by omega))]
    · rw [if_neg (by omega)]
      refine Ev.step (f := fun k => (kauditref23_Chain.f k x0 x1 b p).bind fun t443 => ((some (four (p.length : Int))).bind fun y444 => (if y444.length + p.length < 140737488355328 then ((some (y444 ++ p : List Int)).bind fun y447 => ((kauditref23_Put.f k t443).bind fun t450 => (if y447.length + t450.length < 140737488355328 then (some ((y447 ++ t450), t443, 0)) else (none)))) else (none)))) (fun k => ?_) ?_
      · simp only [kauditref25_Frame.j0]
        rw [if_neg (by rw [decide_eq_false (by omega)]; exact Bool.false_ne_true)]
        rfl
      · refine Ev.bind (rchain_ev x0 x1 b p hl hb) ?_
        simp only [Option.bind_some]
        refine Ev.congr (fun k => if_pos (by show 4 + p.length < _; omega)) ?_
        refine Ev.bind (rput_ev _) (Ev.congr (fun k => if_pos ?_) (Ev.now _))
        rw [List.length_append, putB_len]
        show 4 + p.length + 8 < _
        omega
def vint (n : Nat) : List Int := if h : n < 128 then [(n : Int)] else ((n % 128 + 128 : Nat) : Int) :: vint (n / 128)
termination_by n
decreasing_by omega
theorem vint_small {n : Nat} (h : n < 128) : vint n = [(n : Int)] := by rw [vint, dif_pos h]
theorem vint_great {n : Nat} (h : ¬ n < 128) : vint n = ((n % 128 + 128 : Nat) : Int) :: vint (n / 128) := by rw [vint, dif_neg h]
theorem vint_len : ∀ (c n : Nat), n < 128 ^ c → (vint n).length ≤ c ∨ c = 0 := by
  intro c
  induction c with
  | zero => intro n _; exact .inr rfl
  | succ c ih =>
    intro n h
    left
    by_cases hn : n < 128
    · rw [vint_small hn]; simp
    · rw [vint_great hn]
      have : n / 128 < 128 ^ c := by
        rw [Nat.pow_succ] at h
        exact Nat.div_lt_of_lt_mul (by omega)
      rcases ih (n / 128) this with h1 | h1
      · simp; omega
      · subst h1; simp at this; omega
theorem pow9 : (128 : Nat) ^ (8 + 1) = 9223372036854775808 := by decide
theorem vint_len9 {n : Nat} (h : n < 9223372036854775808) : (vint n).length ≤ 9 := by
  rcases vint_len 9 n (by have := pow9; omega) with h | h
  · exact h
  · omega
theorem vint_bytes : ∀ (n : Nat), Bytes (vint n) := by
  intro n
  induction n using Nat.strongRecOn with
  | _ n ih =>
    by_cases hn : n < 128
    · rw [vint_small hn]
      intro x hx
      rw [List.mem_singleton.1 hx]
      omega
    · rw [vint_great hn]
      intro x hx
      rcases List.mem_cons.1 hx with h | h
      · subst h; omega
      · exact ih (n / 128) (by omega) x h
theorem and127 (n : Nat) (h : n < 9223372036854775808) : Go.bits .and .i64 (n : Int) 127 = ((n % 128 : Nat) : Int) := by
  show IntKind.i64.wrap ((BitVec.ofInt 64 (n : Int) &&& BitVec.ofInt 64 ((127 : Nat) : Int)).toNat : Int) = _
  rw [BitVec.toNat_and, ofInt_u64 n (by omega), ofInt_u64 127 (by omega), show (127 : Nat) = 2 ^ 7 - 1 from rfl, Nat.and_two_pow_sub_one_eq_mod]
  exact Lib.wrap_i64_small _ (by omega)
theorem or128 : ∀ y : Fin 128, Go.bits .or .i64 ((y.val : Nat) : Int) 128 = ((y.val + 128 : Nat) : Int) := by decide +kernel
theorem low7 (n : Nat) (h : n < 9223372036854775808) : (Go.bits .or .i64 (Go.bits .and .i64 (n : Int) 127) 128) % 256 = ((n % 128 + 128 : Nat) : Int) := by
  rw [and127 n h, or128 ⟨n % 128, by omega⟩]
  show (((n % 128 + 128 : Nat) : Int)) % 256 = _
  omega
def vints : List Int → List Int
  | [] => []
  | n :: r => vint n.toNat ++ vints r
def Pos63 (l : List Int) : Prop := ∀ n ∈ l, 0 ≤ n ∧ n < 9223372036854775808
theorem nums_l1 (ns : List Int) (i : Nat) (hi : i < ns.length) (hn : ns.length ≤ 1000) {R : List Int} : ∀ (c n : Nat) (l : List Int), n < 128 ^ (c + 1) → n < 9223372036854775808 → l.length + 11 < 140737488355328 - c →
    Ev (fun k => logfile_appendNumbers.l0 k (l ++ vint n) ns (ns.length : Int) ((i + 1 : Nat) : Int)) R → Ev (fun k => logfile_appendNumbers.l1 k l (n : Int) ns (ns.length : Int) (i : Int)) R := by
  intro c
  induction c with
  | zero =>
    intro n l h h63 hl H
    have h' : n < 128 := by simpa using h
    refine Ev.step (f := fun k => logfile_appendNumbers.l0 k (l ++ vint n) ns (ns.length : Int) ((i + 1 : Nat) : Int)) (fun k => ?_) H
    simp only [logfile_appendNumbers.l1]
    rw [if_neg (by omega), if_pos (by omega), wsucc (n := ns.length) (by omega) (by omega), vint_small h', show ((n : Int)) % 256 = (n : Int) from by omega]
  | succ c ih =>
    intro n l h h63 hl H
    by_cases h' : n < 128
    · refine Ev.step (f := fun k => logfile_appendNumbers.l0 k (l ++ vint n) ns (ns.length : Int) ((i + 1 : Nat) : Int)) (fun k => ?_) H
      simp only [logfile_appendNumbers.l1]
      rw [if_neg (by omega), if_pos (by omega), wsucc (n := ns.length) (by omega) (by omega), vint_small h', show ((n : Int)) % 256 = (n : Int) from by omega]
    · refine Ev.step (f := fun k => logfile_appendNumbers.l1 k (l ++ [((n % 128 + 128 : Nat) : Int)]) ((n / 128 : Nat) : Int) ns (ns.length : Int) (i : Int)) (fun k => ?_) (ih (n / 128) _ ?_ (by omega) (by rw [List.length_append]; simp only [List.length_cons, List.length_nil]; omega) ?_)
      · simp only [logfile_appendNumbers.l1]
        rw [if_pos (by omega), if_pos (by omega), low7 n h63]
        rfl
      · rw [Nat.pow_succ] at h
        exact Nat.div_lt_of_lt_mul (by omega)
      · rw [vint_great h'] at H
        rw [List.append_assoc]
        exact H
theorem nums_l0 (ns : List Int) (hp : Pos63 ns) (hn : ns.length ≤ 1000) (d : Nat) : ∀ (i : Nat) (l : List Int), i + d = ns.length → l.length + d * 9 + 30 < 140737488355328 →
    Ev (fun k => logfile_appendNumbers.l0 k l ns (ns.length : Int) (i : Int)) (l ++ vints (ns.drop i)) := by
  induction d with
  | zero =>
    intro i l hi hl
    refine Ev.step (f := fun _ => some (l ++ vints (ns.drop i))) (fun k => ?_) (Ev.now _)
    simp only [logfile_appendNumbers.l0]
    rw [if_neg (by omega), List.drop_of_length_le (by omega)]
    simp [vints]
  | succ d ih =>
    intro i l hi hl
    have hx : 0 ≤ rd ns (i : Int) ∧ rd ns (i : Int) < 9223372036854775808 := hp _ (List.mem_of_mem_drop (i := i) (by rw [drop_rdI ns i (by omega)]; exact List.mem_cons_self ..))
    have hv := vint_len9 (n := (rd ns (i : Int)).toNat) (by omega)
    have e : ((rd ns (i : Int)).toNat : Int) = rd ns (i : Int) := by omega
    refine Ev.step (f := fun k => logfile_appendNumbers.l1 k l ((rd ns (i : Int)).toNat : Int) ns (ns.length : Int) (i : Int)) (fun k => ?_) (nums_l1 ns i (by omega) hn 8 _ l (by rw [pow9]; omega) (by omega) (by omega) ?_)
    · simp only [logfile_appendNumbers.l0]
      rw [if_pos (by omega), if_pos (by omega), if_pos (by omega), e]
    · have := ih (i + 1) (l ++ vint (rd ns (i : Int)).toNat) (by omega) (by rw [List.length_append]; omega)
      rw [drop_rdI ns i (by omega)]
      simp only [vints]
      rw [← List.append_assoc]
      exact this
theorem nums_ev (l ns : List Int) (hp : Pos63 ns) (hn : ns.length ≤ 1000) (hl : l.length + ns.length * 9 + 30 < 140737488355328) : Ev (fun k => logfile_appendNumbers.f k l ns) (l ++ vints ns) := by
  have := nums_l0 ns hp hn ns.length 0 l (by omega) hl
  rw [List.drop_zero] at this
  exact this
theorem rvint_l0 : ∀ (c n : Nat) (l : List Int), n < 128 ^ (c + 1) → n < 9223372036854775808 → l.length + 11 < 140737488355328 - c → Ev (fun k => kauditref25_Put.l0 k l (n : Int)) (l ++ vint n) := by
  intro c
  induction c with
  | zero =>
    intro n l h h63 hl
    have h' : n < 128 := by simpa using h
    refine Ev.step (f := fun _ => some (l ++ vint n)) (fun k => ?_) (Ev.now _)
    simp only [kauditref25_Put.l0]
    rw [if_neg (by omega), if_pos (by omega), vint_small h', show ((n : Int)) % 256 = (n : Int) from by omega]
  | succ c ih =>
    intro n l h h63 hl
    by_cases h' : n < 128
    · refine Ev.step (f := fun _ => some (l ++ vint n)) (fun k => ?_) (Ev.now _)
      simp only [kauditref25_Put.l0]
      rw [if_neg (by omega), if_pos (by omega), vint_small h', show ((n : Int)) % 256 = (n : Int) from by omega]
    · have ht : Int.tmod (n : Int) 128 = ((n % 128 : Nat) : Int) := rfl
      have hd : Int.tdiv (n : Int) 128 = ((n / 128 : Nat) : Int) := rfl
      rw [vint_great h', show l ++ ((n % 128 + 128 : Nat) : Int) :: vint (n / 128) = (l ++ [((n % 128 + 128 : Nat) : Int)]) ++ vint (n / 128) from by rw [List.append_assoc]; rfl]
      refine Ev.step (f := fun k => kauditref25_Put.l0 k (l ++ [((n % 128 + 128 : Nat) : Int)]) ((n / 128 : Nat) : Int)) (fun k => ?_) (ih (n / 128) _ ?_ (by omega) (by rw [List.length_append]; simp only [List.length_cons, List.length_nil]; omega))
      · simp only [kauditref25_Put.l0]
        rw [if_pos (by omega), if_pos (by omega), ht, hd, w64 (by omega) (by omega), show ((((n % 128 : Nat) : Int)) % 256 + 128) % 256 = ((n % 128 + 128 : Nat) : Int) from by omega]
      · rw [Nat.pow_succ] at h
        exact Nat.div_lt_of_lt_mul (by omega)
theorem rvint_ev (l : List Int) (n : Int) (h0 : 0 ≤ n) (h1 : n < 9223372036854775808) (hl : l.length + 100 < 140737488355328) : Ev (fun k => kauditref25_Put.f k l n) (l ++ vint n.toNat) := by
  have := rvint_l0 8 n.toNat l (by rw [pow9]; omega) (by omega) (by omega)
  rw [show ((n.toNat : Nat) : Int) = n from by omega] at this
  exact this
def magicB : List Int := [107, 97, 117, 100, 105, 116]
def headV (x0 x1 n b : Int) : List Int × Int × Int :=
  if n < 1 ∨ n > 1000 then ([], 0, 257) else frameV x0 x1 b ((magicB ++ vint n.toNat) ++ putB b)
theorem magic_bytes : Bytes magicB := by
  intro x hx
  unfold magicB at hx
  simp only [List.mem_cons, List.not_mem_nil, or_false] at hx
  rcases hx with rfl | rfl | rfl | rfl | rfl | rfl <;> omega
theorem head_ev (x0 x1 n b : Int) : Ev (fun k => logfile_Head.f k x0 x1 n b) (headV x0 x1 n b) := by
  unfold logfile_Head.f headV
  by_cases h1 : n < 1
  · rw [if_pos (.inl h1)]
    refine Ev.congr (fun k => if_pos h1) (Ev.step (f := fun _ => some ([], 0, 257)) (fun k => ?_) (Ev.now _))
    simp only [logfile_Head.j0]
    rfl
  · refine Ev.congr (fun k => if_neg h1) ?_
    by_cases h2 : n > 1000
    · rw [if_pos (.inr h2)]
      refine Ev.step (f := fun _ => some ([], 0, 257)) (fun k => ?_) (Ev.now _)
      simp only [logfile_Head.j0]
      rw [if_pos (decide_eq_true h2)]
    · rw [if_neg (by omega)]
      have hv := vint_len9 (n := n.toNat) (by omega)
      have hlen : ((magicB ++ vint n.toNat) ++ putB b).length ≤ 100 := by rw [List.length_append, List.length_append, putB_len]; show 6 + _ + 8 ≤ 100; omega
      have hby : Bytes ((magicB ++ vint n.toNat) ++ putB b) := bytes_append (bytes_append magic_bytes (vint_bytes _)) (putB_bytes b)
      refine Ev.step (f := fun k => (logfile_appendNumbers.f k magicB [n]).bind fun t516 => ((digest_Put.f k b).bind fun t519 => (if t516.length + t519.length < 140737488355328 then ((logfile_Frame.f k x0 x1 b (t516 ++ t519)).bind fun bt525 => (some (bt525.1, bt525.2.1, bt525.2.2))) else (none)))) (fun k => ?_) ?_
      · simp only [logfile_Head.j0]
        rw [if_neg (by rw [decide_eq_false h2]; exact Bool.false_ne_true)]
        rfl
      · refine Ev.bind (nums_ev magicB [n] (fun x hx => by rw [List.mem_singleton.1 hx]; omega) (by show 1 ≤ 1000; decide) (by show 6 + 1 * 9 + 30 < 140737488355328; decide)) ?_
        have e : magicB ++ vints [n] = magicB ++ vint n.toNat := by simp [vints]
        rw [e]
        refine Ev.bind (put_ev b) (Ev.congr (fun k => if_pos ?_) ?_)
        · rw [List.length_append] at hlen; omega
        · exact Ev.bind (frame_ev x0 x1 b _ (by omega) hby) (Ev.now _)
theorem rhead_ev (x0 x1 n b : Int) : Ev (fun k => kauditref25_Head.f k x0 x1 n b) (headV x0 x1 n b) := by
  unfold kauditref25_Head.f headV
  by_cases h1 : n < 1
  · rw [if_pos (.inl h1)]
    refine Ev.congr (fun k => if_pos h1) (Ev.step (f := fun _ => some ([], 0, 257)) (fun k => ?_) (Ev.now _))
    simp only [kauditref25_Head.j0]
    rfl
  · refine Ev.congr (fun k => if_neg h1) ?_
    by_cases h2 : n > 1000
    · rw [if_pos (.inr h2)]
      refine Ev.step (f := fun _ => some ([], 0, 257)) (fun k => ?_) (Ev.now _)
      simp only [kauditref25_Head.j0]
      rw [if_pos (decide_eq_true h2)]
    · rw [if_neg (by omega)]
      have hv := vint_len9 (n := n.toNat) (by omega)
      have hlen : ((magicB ++ vint n.toNat) ++ putB b).length ≤ 100 := by rw [List.length_append, List.length_append, putB_len]; show 6 + _ + 8 ≤ 100; omega
      have hby : Bytes ((magicB ++ vint n.toNat) ++ putB b) := bytes_append (bytes_append magic_bytes (vint_bytes _)) (putB_bytes b)
      refine Ev.step (f := fun k => (kauditref25_Put.f k magicB n).bind fun t540 => ((kauditref23_Put.f k b).bind fun t543 => (if t540.length + t543.length < 140737488355328 then ((kauditref25_Frame.f k x0 x1 b (t540 ++ t543)).bind fun bt549 => (some (bt549.1, bt549.2.1, bt549.2.2))) else (none)))) (fun k => ?_) ?_
      · simp only [kauditref25_Head.j0]
        rw [if_neg (by rw [decide_eq_false h2]; exact Bool.false_ne_true)]
        rfl
      · refine Ev.bind (rvint_ev magicB n (by omega) (by omega) (by decide)) ?_
        refine Ev.bind (rput_ev b) (Ev.congr (fun k => if_pos ?_) ?_)
        · rw [List.length_append] at hlen; omega
        · exact Ev.bind (rframe_ev x0 x1 b _ (by omega) hby) (Ev.now _)
theorem same_self (l : List Int) : kauditref24_SameBytes.f l l = some true := by
  unfold kauditref24_SameBytes.f
  simp
end Go.Proofs.YtjnlmmjadlidlaaDoor.Pure3
end
section
namespace Go.Proofs.YtjnlmmjadlidlaaDoor.PRec
open Go.RowKit Go.Proofs.YtjnlmmjadlidlaaDoorW.PrintWords Go.Proofs.YtjnlmmjadlidlaaDoorW.PrintLast Go.Proofs.YtjnlmmjadlidlaaDoorW.PrintMore
attribute [local go_sem] max2_int min2_int max_two min_two max_three min_three max_four min_four
set_option linter.unusedVariables false
set_option linter.unusedSimpArgs false
def logfile_complete.f (l0 : List (S50)) : Option (Bool) := if (l0.length : Int) = 0 then (some false) else (if (l0.length : Int) = 1 then (if 0 < (l0.length : Int) then ((record_Single.f ((rd_T50 l0 0).f0)).bind fun t555 => (if t555 = true then (some true) else (if 0 ≤ (wrap64 ((l0.length : Int) - 1)) then (if (wrap64 ((l0.length : Int) - 1)) < (l0.length : Int) then (some (((rd_T50 l0 (wrap64 ((l0.length : Int) - 1))).f0) == 1320)) else (none)) else (none)))) else (none)) else (if 0 ≤ (wrap64 ((l0.length : Int) - 1)) then (if (wrap64 ((l0.length : Int) - 1)) < (l0.length : Int) then (some (((rd_T50 l0 (wrap64 ((l0.length : Int) - 1))).f0) == 1320)) else (none)) else (none)))
end Go.Proofs.YtjnlmmjadlidlaaDoor.PRec
end
section
namespace Go.Proofs.YtjnlmmjadlidlaaDoor.PRec
open Go.RowKit Go.Proofs.YtjnlmmjadlidlaaDoorW.PrintWords Go.Proofs.YtjnlmmjadlidlaaDoorW.PrintLast Go.Proofs.YtjnlmmjadlidlaaDoorW.PrintMore
attribute [local go_sem] max2_int min2_int max_two min_two max_three min_three max_four min_four
set_option linter.unusedVariables false
set_option linter.unusedSimpArgs false
mutual
def logfile_proper.j0 : Nat → Int → Bool → Int → Int → Int → List (S50) → Bool → Option (Bool)
  | 0, _, _, _, _, _, _, _ => none
  | k + 1, x3, x34, x559000, x559001, x559002, x559003, x559004 => if x34 = true then (some false) else (logfile_proper.l0 k x3 x559003 (x559003.length : Int) 0 x559000 x559001 x559002 x559003 x559004)
def logfile_proper.l0 : Nat → Int → List (S50) → Int → Int → Int → Int → Int → List (S50) → Bool → Option (Bool)
  | 0, _, _, _, _, _, _, _, _, _ => none
  | k + 1, x3, x36, x37, x38, x559000, x559001, x559002, x559003, x559004 => if x38 < x37 then (if 0 ≤ x38 then (if x38 < (x36.length : Int) then ((record_Check.f k ((rd_T50 x36 x38).f0) ((rd_T50 x36 x38).f1) ((rd_T50 x36 x38).f2) ((rd_T50 x36 x38).f3)).bind fun t563 => (if t563 = 0 then (logfile_proper.j2 k x3 x38 x36 x37 x38 (((rd_T50 x36 x38).f2) != x559001) x559000 x559001 x559002 x559003 x559004 ((rd_T50 x36 x38).f0) ((rd_T50 x36 x38).f1) ((rd_T50 x36 x38).f2) ((rd_T50 x36 x38).f3)) else (logfile_proper.j2 k x3 x38 x36 x37 x38 true x559000 x559001 x559002 x559003 x559004 ((rd_T50 x36 x38).f0) ((rd_T50 x36 x38).f1) ((rd_T50 x36 x38).f2) ((rd_T50 x36 x38).f3)))) else (none)) else (none)) else (if 0 < (x559003.length : Int) then (if x559002 = ((rd_T50 x559003 0).f1) then ((logfile_complete.f x559003).bind fun t560 => (some (x559004 == t560))) else (some false)) else (none))
def logfile_proper.j2 : Nat → Int → Int → List (S50) → Int → Int → Bool → Int → Int → Int → List (S50) → Bool → Int → Int → Int → List (S34) → Option (Bool)
  | 0, _, _, _, _, _, _, _, _, _, _, _, _, _, _, _ => none
  | k + 1, x3, x4, x36, x37, x38, x52, x559000, x559001, x559002, x559003, x559004, x563000, x563001, x563002, x563003 => if x52 = true then (some false) else ((record_Single.f x563000).bind fun t564 => (if t564 = true then (if x3 > 1 then (some false) else (if x563000 = 1320 then (if x4 < (wrap64 (x3 - 1)) then (some false) else (logfile_proper.l0 k x3 x36 x37 (wrap64 (x38 + 1)) x559000 x559001 x559002 x559003 x559004)) else (logfile_proper.l0 k x3 x36 x37 (wrap64 (x38 + 1)) x559000 x559001 x559002 x559003 x559004))) else (if x563000 = 1320 then (if x4 < (wrap64 (x3 - 1)) then (some false) else (logfile_proper.l0 k x3 x36 x37 (wrap64 (x38 + 1)) x559000 x559001 x559002 x559003 x559004)) else (logfile_proper.l0 k x3 x36 x37 (wrap64 (x38 + 1)) x559000 x559001 x559002 x559003 x559004))))
end
def logfile_proper.f (k : Nat) (a0_0 : Int) (a0_1 : Int) (a0_2 : Int) (l0_3 : List (S50)) (a0_4 : Bool) : Option (Bool) := if a0_0 < 1 then (logfile_proper.j0 k (l0_3.length : Int) true a0_0 a0_1 a0_2 l0_3 a0_4) else (if a0_0 > 1048576 then (logfile_proper.j0 k (l0_3.length : Int) true a0_0 a0_1 a0_2 l0_3 a0_4) else (if a0_1 < 1 then (logfile_proper.j0 k (l0_3.length : Int) true a0_0 a0_1 a0_2 l0_3 a0_4) else (if a0_1 > 1073741824 then (logfile_proper.j0 k (l0_3.length : Int) true a0_0 a0_1 a0_2 l0_3 a0_4) else (if (l0_3.length : Int) < 1 then (logfile_proper.j0 k (l0_3.length : Int) true a0_0 a0_1 a0_2 l0_3 a0_4) else (logfile_proper.j0 k (l0_3.length : Int) (decide ((l0_3.length : Int) > 5)) a0_0 a0_1 a0_2 l0_3 a0_4)))))
theorem logfile_proper.mono_l : ∀ k, (∀ y0 y1 y2 y3 y4 y5 y6, LeO (logfile_proper.j0 k y0 y1 y2 y3 y4 y5 y6) (logfile_proper.j0 (k + 1) y0 y1 y2 y3 y4 y5 y6)) ∧ (∀ y0 y1 y2 y3 y4 y5 y6 y7 y8, LeO (logfile_proper.l0 k y0 y1 y2 y3 y4 y5 y6 y7 y8) (logfile_proper.l0 (k + 1) y0 y1 y2 y3 y4 y5 y6 y7 y8)) ∧ (∀ y0 y1 y2 y3 y4 y5 y6 y7 y8 y9 y10 y11 y12 y13 y14, LeO (logfile_proper.j2 k y0 y1 y2 y3 y4 y5 y6 y7 y8 y9 y10 y11 y12 y13 y14) (logfile_proper.j2 (k + 1) y0 y1 y2 y3 y4 y5 y6 y7 y8 y9 y10 y11 y12 y13 y14))
  | 0 => ⟨fun _ _ _ _ _ _ _ r h => by simp [logfile_proper.j0] at h, fun _ _ _ _ _ _ _ _ _ r h => by simp [logfile_proper.l0] at h, fun _ _ _ _ _ _ _ _ _ _ _ _ _ _ _ r h => by simp [logfile_proper.j2] at h⟩
  | k + 1 => by
    obtain ⟨ih0, ih1, ih2⟩ := logfile_proper.mono_l k
    refine ⟨?_, ?_, ?_⟩
    · intro y0 y1 y2 y3 y4 y5 y6
      unfold logfile_proper.j0
      repeat' first
      | (with_reducible exact ih0 _ _ _ _ _ _ _)
      | (with_reducible exact ih1 _ _ _ _ _ _ _ _ _)
      | (with_reducible exact ih2 _ _ _ _ _ _ _ _ _ _ _ _ _ _ _)
      | (with_reducible exact record_Check.mono _ _ _ _ _)
      | (with_reducible exact LeO.refl _)
      | (with_reducible exact LeO.none _)
      | (with_reducible refine LeO.ite ?_ ?_)
      | (with_reducible refine LeO.bind ?_ (fun _ => ?_))
      | exact ih0 _ _ _ _ _ _ _
      | exact ih1 _ _ _ _ _ _ _ _ _
      | exact ih2 _ _ _ _ _ _ _ _ _ _ _ _ _ _ _
      | exact record_Check.mono _ _ _ _ _
      | exact LeO.none _
      | refine LeO.ite ?_ ?_
      | refine LeO.bind ?_ (fun _ => ?_)
    · intro y0 y1 y2 y3 y4 y5 y6 y7 y8
      unfold logfile_proper.l0
      repeat' first
      | (with_reducible exact ih0 _ _ _ _ _ _ _)
      | (with_reducible exact ih1 _ _ _ _ _ _ _ _ _)
      | (with_reducible exact ih2 _ _ _ _ _ _ _ _ _ _ _ _ _ _ _)
      | (with_reducible exact record_Check.mono _ _ _ _ _)
      | (with_reducible exact LeO.refl _)
      | (with_reducible exact LeO.none _)
      | (with_reducible refine LeO.ite ?_ ?_)
      | (with_reducible refine LeO.bind ?_ (fun _ => ?_))
      | exact ih0 _ _ _ _ _ _ _
      | exact ih1 _ _ _ _ _ _ _ _ _
      | exact ih2 _ _ _ _ _ _ _ _ _ _ _ _ _ _ _
      | exact record_Check.mono _ _ _ _ _
      | exact LeO.none _
      | refine LeO.ite ?_ ?_
      | refine LeO.bind ?_ (fun _ => ?_)
    · intro y0 y1 y2 y3 y4 y5 y6 y7 y8 y9 y10 y11 y12 y13 y14
      unfold logfile_proper.j2
      repeat' first
      | (with_reducible exact ih0 _ _ _ _ _ _ _)
      | (with_reducible exact ih1 _ _ _ _ _ _ _ _ _)
      | (with_reducible exact ih2 _ _ _ _ _ _ _ _ _ _ _ _ _ _ _)
      | (with_reducible exact record_Check.mono _ _ _ _ _)
      | (with_reducible exact LeO.refl _)
      | (with_reducible exact LeO.none _)
      | (with_reducible refine LeO.ite ?_ ?_)
      | (with_reducible refine LeO.bind ?_ (fun _ => ?_))
      | exact ih0 _ _ _ _ _ _ _
      | exact ih1 _ _ _ _ _ _ _ _ _
      | exact ih2 _ _ _ _ _ _ _ _ _ _ _ _ _ _ _
      | exact record_Check.mono _ _ _ _ _
      | exact LeO.none _
      | refine LeO.ite ?_ ?_
      | refine LeO.bind ?_ (fun _ => ?_)
theorem logfile_proper.mono : ∀ a0 a1 a2 a3 a4 k, LeO (logfile_proper.f k a0 a1 a2 a3 a4) (logfile_proper.f (k + 1) a0 a1 a2 a3 a4) := by
  intro a0 a1 a2 a3 a4 k
  obtain ⟨ih0, ih1, ih2⟩ := logfile_proper.mono_l k
  unfold logfile_proper.f
  repeat' first
      | (with_reducible exact ih0 _ _ _ _ _ _ _)
      | (with_reducible exact ih1 _ _ _ _ _ _ _ _ _)
      | (with_reducible exact ih2 _ _ _ _ _ _ _ _ _ _ _ _ _ _ _)
      | (with_reducible exact record_Check.mono _ _ _ _ _)
      | (with_reducible exact LeO.refl _)
      | (with_reducible exact LeO.none _)
      | (with_reducible refine LeO.ite ?_ ?_)
      | (with_reducible refine LeO.bind ?_ (fun _ => ?_))
      | exact ih0 _ _ _ _ _ _ _
      | exact ih1 _ _ _ _ _ _ _ _ _
      | exact ih2 _ _ _ _ _ _ _ _ _ _ _ _ _ _ _
      | exact record_Check.mono _ _ _ _ _
      | exact LeO.none _
      | refine LeO.ite ?_ ?_
      | refine LeO.bind ?_ (fun _ => ?_)
end Go.Proofs.YtjnlmmjadlidlaaDoor.PRec
end
section
namespace Go.Proofs.YtjnlmmjadlidlaaDoor.PRec
open Go.RowKit Go.Proofs.YtjnlmmjadlidlaaDoorW.PrintWords Go.Proofs.YtjnlmmjadlidlaaDoorW.PrintLast Go.Proofs.YtjnlmmjadlidlaaDoorW.PrintMore
attribute [local go_sem] max2_int min2_int max_two min_two max_three min_three max_four min_four
set_option linter.unusedVariables false
set_option linter.unusedSimpArgs false
def logfile_CheckEvent.f (k : Nat) (a0_0 : Int) (a0_1 : Int) (a0_2 : Int) (l0_3 : List (S50)) (a0_4 : Bool) : Option (Int) := (logfile_proper.f k a0_0 a0_1 a0_2 l0_3 a0_4).bind fun t566 => (if t566 = true then (some 0) else (some 251))
theorem logfile_CheckEvent.mono : ∀ a0 a1 a2 a3 a4 k, LeO (logfile_CheckEvent.f k a0 a1 a2 a3 a4) (logfile_CheckEvent.f (k + 1) a0 a1 a2 a3 a4) := by
  intro a0 a1 a2 a3 a4 k
  unfold logfile_CheckEvent.f
  repeat' first
      | (with_reducible exact logfile_proper.mono _ _ _ _ _ _)
      | (with_reducible exact LeO.refl _)
      | (with_reducible exact LeO.none _)
      | (with_reducible refine LeO.ite ?_ ?_)
      | (with_reducible refine LeO.bind ?_ (fun _ => ?_))
      | exact logfile_proper.mono _ _ _ _ _ _
      | exact LeO.none _
      | refine LeO.ite ?_ ?_
      | refine LeO.bind ?_ (fun _ => ?_)
def logfile_within.f (a0 : Int) (a1 : Int) (a2 : Int) : Option (Bool) := if a0 ≥ a1 then (some (decide (a0 ≤ a2))) else (some false)
set_option maxHeartbeats 8000000 in
set_option maxRecDepth 100000 in
theorem logfile_within.calls (a0 : Int) (a1 : Int) (a2 : Int) (r : Bool) (w : World) (h : logfile_within.f a0 a1 a2 = some r) :
    Calls Tryd.prog 177 #[.int .i64 a0, .int .i64 a1, .int .i64 a2] w fun e w' => e = .returned (.bool r) ∧ Drawn0 w w' := by
  have H : (if a0 ≥ a1 then (some (decide (a0 ≤ a2))) else (some false)) = some r := h
  clear h
  by_cases c4 : a0 ≥ a1
  · rw [if_pos c4] at H
    have c4b0 : decide (a1 ≤ a0) = true := decide_eq_true c4
    clear c4
    obtain rfl := Option.some.inj H
    go_enter Tryd.func177, Tryd.ntmps177
    go_wp2
    go_ret
    exact ⟨by first | rfl | (simp; done) | (simp [*]; done) | (simp only [isEmpty_ne_]; done), by repeat (first | exact Drawn0.refl _ | apply Drawn0.step)⟩
  · rw [if_neg c4] at H
    have c4b0 : decide (a1 ≤ a0) = false := decide_eq_false c4
    clear c4
    obtain rfl := Option.some.inj H
    go_enter Tryd.func177, Tryd.ntmps177
    go_wp2
    go_ret
    exact ⟨by first | rfl | (simp; done) | (simp [*]; done) | (simp only [isEmpty_ne_]; done), by repeat (first | exact Drawn0.refl _ | apply Drawn0.step)⟩
def logfile_checkMark.f (a0_0 : Int) (a0_1 : Int) (a0_2 : Int) (a0_3 : Int) : Option (Int) := (logfile_within.f a0_0 1 7).bind fun t568 => (if t568 = true then ((logfile_within.f a0_1 0 1099511627776).bind fun t569 => (if t569 = true then ((logfile_within.f a0_2 0 1099511627776).bind fun t570 => (if t570 = true then ((logfile_within.f a0_3 0 1099511627776).bind fun t571 => (if t571 = true then (some 0) else (some 252))) else (some 252))) else (some 252))) else (some 252))
set_option maxHeartbeats 8000000 in
set_option maxRecDepth 100000 in
theorem logfile_checkMark.calls (a0_0 : Int) (a0_1 : Int) (a0_2 : Int) (a0_3 : Int) (r : Int) (w : World) (h : logfile_checkMark.f a0_0 a0_1 a0_2 a0_3 = some r) :
    Calls Tryd.prog 156 #[.agg #[.int .i64 a0_0, .int .i64 a0_1, .int .i64 a0_2, .int .i64 a0_3]] w fun e w' => e = .returned (.int .i64 r) ∧ Below w.heap.size w w' := by
  have hu137 := Tryd.underlying137
  have HB := Aside0.mk (Below.refl w.heap.size w)
  have H : ((logfile_within.f a0_0 1 7).bind fun t568 => (if t568 = true then ((logfile_within.f a0_1 0 1099511627776).bind fun t569 => (if t569 = true then ((logfile_within.f a0_2 0 1099511627776).bind fun t570 => (if t570 = true then ((logfile_within.f a0_3 0 1099511627776).bind fun t571 => (if t571 = true then (some 0) else (some 252))) else (some 252))) else (some 252))) else (some 252))) = some r := h
  clear h
  replace H := Option.bind_eq_some_iff.mp H
  obtain ⟨t568, A20, H⟩ := H
  replace H : (if t568 = true then ((logfile_within.f a0_1 0 1099511627776).bind fun t569 => (if t569 = true then ((logfile_within.f a0_2 0 1099511627776).bind fun t570 => (if t570 = true then ((logfile_within.f a0_3 0 1099511627776).bind fun t571 => (if t571 = true then (some 0) else (some 252))) else (some 252))) else (some 252))) else (some 252)) = some r := H
  have A2 := Aside0.mk A20
  clear A20
  by_cases c3 : t568 = true
  · subst c3
    have H1 : ((logfile_within.f a0_1 0 1099511627776).bind fun t569 => (if t569 = true then ((logfile_within.f a0_2 0 1099511627776).bind fun t570 => (if t570 = true then ((logfile_within.f a0_3 0 1099511627776).bind fun t571 => (if t571 = true then (some 0) else (some 252))) else (some 252))) else (some 252))) = some r := by rw [if_pos rfl] at H; exact H
    clear H
    have H := H1
    clear H1
    replace H := Option.bind_eq_some_iff.mp H
    obtain ⟨t569, A40, H⟩ := H
    replace H : (if t569 = true then ((logfile_within.f a0_2 0 1099511627776).bind fun t570 => (if t570 = true then ((logfile_within.f a0_3 0 1099511627776).bind fun t571 => (if t571 = true then (some 0) else (some 252))) else (some 252))) else (some 252)) = some r := H
    have A4 := Aside0.mk A40
    clear A40
    by_cases c5 : t569 = true
    · subst c5
      have H1 : ((logfile_within.f a0_2 0 1099511627776).bind fun t570 => (if t570 = true then ((logfile_within.f a0_3 0 1099511627776).bind fun t571 => (if t571 = true then (some 0) else (some 252))) else (some 252))) = some r := by rw [if_pos rfl] at H; exact H
      clear H
      have H := H1
      clear H1
      replace H := Option.bind_eq_some_iff.mp H
      obtain ⟨t570, A60, H⟩ := H
      replace H : (if t570 = true then ((logfile_within.f a0_3 0 1099511627776).bind fun t571 => (if t571 = true then (some 0) else (some 252))) else (some 252)) = some r := H
      have A6 := Aside0.mk A60
      clear A60
      by_cases c7 : t570 = true
      · subst c7
        have H1 : ((logfile_within.f a0_3 0 1099511627776).bind fun t571 => (if t571 = true then (some 0) else (some 252))) = some r := by rw [if_pos rfl] at H; exact H
        clear H
        have H := H1
        clear H1
        replace H := Option.bind_eq_some_iff.mp H
        obtain ⟨t571, A80, H⟩ := H
        replace H : (if t571 = true then (some 0) else (some 252)) = some r := H
        have A8 := Aside0.mk A80
        clear A80
        by_cases c9 : t571 = true
        · subst c9
          have H1 : (some 0) = some r := by rw [if_pos rfl] at H; exact H
          clear H
          have H := H1
          clear H1
          obtain rfl := Option.some.inj H
          go_enter Tryd.func156, Tryd.ntmps156
          go_wp2_with (first | ((with_reducible refine gate_dst (N := 1) rfl ?_); refine box_event ?hg (N := 1) ?hd (cs := #[.int .i64 a0_0, .int .i64 a0_1, .int .i64 a0_2, .int .i64 a0_3]) (t := 137) ?hr ?_; (case hd => rfl); (case hg => rfl); (case hr => first | (go_simp; done) | (go_simp; rfl)); intro gb567 hg w10 hbox hb; have n0_ := Aside0.mk (below_step (by repeat (first | (with_reducible first | exact HB.out | apply below_alloc | apply pw_below_drewN | apply below_drew1) | exact HB.out)) hb); have n1_ := Aside0.mk (hbox); have n2_ := Aside0.mk ((by rw [hg]; exact (below_size (by repeat (first | (with_reducible first | exact HB.out | apply below_alloc | apply pw_below_drewN | apply below_drew1) | exact HB.out))) : w.heap.size ≤ gb567)); have n3_ := Aside0.mk ((by rw [hg]; exact (below_size (by repeat (first | (with_reducible first | exact HB.out | apply below_alloc | apply pw_below_drewN | apply below_drew1) | exact HB.out))) : w.heap.size ≤ gb567)); clear HB; have HB := n0_; have BK567 := n1_; have GW567 := n2_; have GE567 := n3_; clear n0_ n1_ n2_ n3_; clear hb hbox hg; have hcz11_0 : w10.cell? ⟨gb567, 0, none⟩ = some (.int .i64 a0_0) := (blk_cell BK567.out 0).trans rfl; have hcz11_1 : w10.cell? ⟨gb567, 1, none⟩ = some (.int .i64 a0_1) := (blk_cell BK567.out 1).trans rfl; have hcz11_2 : w10.cell? ⟨gb567, 2, none⟩ = some (.int .i64 a0_2) := (blk_cell BK567.out 2).trans rfl; have hcz11_3 : w10.cell? ⟨gb567, 3, none⟩ = some (.int .i64 a0_3) := (blk_cell BK567.out 3).trans rfl; have hfz11_0 := blk_frozen BK567.out 0; have hfz11_1 := blk_frozen BK567.out 1; have hfz11_2 := blk_frozen BK567.out 2; have hfz11_3 := blk_frozen BK567.out 3) | ((with_reducible refine gate_callee (f := 177) rfl ?_); refine goesL_ (some 5) rfl rfl Tryd.func177 (by kernel_rfl) rfl #[.int .i64 a0_0, .int .i64 1, .int .i64 7] rfl (by (try simp only [List.map_toArray, List.map_cons, List.map_nil]); first | done | rfl | (simp only [List.length_drop, List.length_take]; rfl)) ?_; (with_reducible refine (logfile_within.calls a0_0 1 7 true _ A2.out).mono ?_); rintro e w' ⟨rfl, ⟨nd, rfl⟩⟩; refine ⟨_, rfl, ?_⟩) | (go_at_call 177; (with_reducible refine (logfile_within.calls a0_1 0 1099511627776 true _ A4.out).mono ?_); rintro e w' ⟨rfl, ⟨nd, rfl⟩⟩) | (go_at_call 177; (with_reducible refine (logfile_within.calls a0_2 0 1099511627776 true _ A6.out).mono ?_); rintro e w' ⟨rfl, ⟨nd, rfl⟩⟩) | (go_at_call 177; (with_reducible refine (logfile_within.calls a0_3 0 1099511627776 true _ A8.out).mono ?_); rintro e w' ⟨rfl, ⟨nd, rfl⟩⟩))
          go_ret
          exact ⟨by first | rfl | (simp [errW_none, errW_some] <;> rfl) | (simp [*, errW_none, errW_some] <;> rfl) | (simp only [isEmpty_ne_, isEmpty_eq_]; rfl) | (simp [*, isEmpty_ne_, isEmpty_eq_]; done), by repeat (first | (with_reducible first | exact HB.out | apply below_alloc | apply pw_below_drewN | apply below_drew1 | refine below_set ?_ GE567.out) | exact HB.out)⟩
        · replace c9 := Bool.eq_false_iff.mpr c9
          subst c9
          have H1 : (some 252) = some r := by rw [if_neg (show ¬ (false = true) by decide)] at H; exact H
          clear H
          have H := H1
          clear H1
          obtain rfl := Option.some.inj H
          go_enter Tryd.func156, Tryd.ntmps156
          go_wp2_with (first | ((with_reducible refine gate_dst (N := 1) rfl ?_); refine box_event ?hg (N := 1) ?hd (cs := #[.int .i64 a0_0, .int .i64 a0_1, .int .i64 a0_2, .int .i64 a0_3]) (t := 137) ?hr ?_; (case hd => rfl); (case hg => rfl); (case hr => first | (go_simp; done) | (go_simp; rfl)); intro gb567 hg w12 hbox hb; have n0_ := Aside0.mk (below_step (by repeat (first | (with_reducible first | exact HB.out | apply below_alloc | apply pw_below_drewN | apply below_drew1) | exact HB.out)) hb); have n1_ := Aside0.mk (hbox); have n2_ := Aside0.mk ((by rw [hg]; exact (below_size (by repeat (first | (with_reducible first | exact HB.out | apply below_alloc | apply pw_below_drewN | apply below_drew1) | exact HB.out))) : w.heap.size ≤ gb567)); have n3_ := Aside0.mk ((by rw [hg]; exact (below_size (by repeat (first | (with_reducible first | exact HB.out | apply below_alloc | apply pw_below_drewN | apply below_drew1) | exact HB.out))) : w.heap.size ≤ gb567)); clear HB; have HB := n0_; have BK567 := n1_; have GW567 := n2_; have GE567 := n3_; clear n0_ n1_ n2_ n3_; clear hb hbox hg; have hcz13_0 : w12.cell? ⟨gb567, 0, none⟩ = some (.int .i64 a0_0) := (blk_cell BK567.out 0).trans rfl; have hcz13_1 : w12.cell? ⟨gb567, 1, none⟩ = some (.int .i64 a0_1) := (blk_cell BK567.out 1).trans rfl; have hcz13_2 : w12.cell? ⟨gb567, 2, none⟩ = some (.int .i64 a0_2) := (blk_cell BK567.out 2).trans rfl; have hcz13_3 : w12.cell? ⟨gb567, 3, none⟩ = some (.int .i64 a0_3) := (blk_cell BK567.out 3).trans rfl; have hfz13_0 := blk_frozen BK567.out 0; have hfz13_1 := blk_frozen BK567.out 1; have hfz13_2 := blk_frozen BK567.out 2; have hfz13_3 := blk_frozen BK567.out 3) | ((with_reducible refine gate_callee (f := 177) rfl ?_); refine goesL_ (some 5) rfl rfl Tryd.func177 (by kernel_rfl) rfl #[.int .i64 a0_0, .int .i64 1, .int .i64 7] rfl (by (try simp only [List.map_toArray, List.map_cons, List.map_nil]); first | done | rfl | (simp only [List.length_drop, List.length_take]; rfl)) ?_; (with_reducible refine (logfile_within.calls a0_0 1 7 true _ A2.out).mono ?_); rintro e w' ⟨rfl, ⟨nd, rfl⟩⟩; refine ⟨_, rfl, ?_⟩) | (go_at_call 177; (with_reducible refine (logfile_within.calls a0_1 0 1099511627776 true _ A4.out).mono ?_); rintro e w' ⟨rfl, ⟨nd, rfl⟩⟩) | (go_at_call 177; (with_reducible refine (logfile_within.calls a0_2 0 1099511627776 true _ A6.out).mono ?_); rintro e w' ⟨rfl, ⟨nd, rfl⟩⟩) | (go_at_call 177; (with_reducible refine (logfile_within.calls a0_3 0 1099511627776 false _ A8.out).mono ?_); rintro e w' ⟨rfl, ⟨nd, rfl⟩⟩))
          go_ret
          exact ⟨by first | rfl | (simp [errW_none, errW_some] <;> rfl) | (simp [*, errW_none, errW_some] <;> rfl) | (simp only [isEmpty_ne_, isEmpty_eq_]; rfl) | (simp [*, isEmpty_ne_, isEmpty_eq_]; done), by repeat (first | (with_reducible first | exact HB.out | apply below_alloc | apply pw_below_drewN | apply below_drew1 | refine below_set ?_ GE567.out) | exact HB.out)⟩
      · replace c7 := Bool.eq_false_iff.mpr c7
        subst c7
        have H1 : (some 252) = some r := by rw [if_neg (show ¬ (false = true) by decide)] at H; exact H
        clear H
        have H := H1
        clear H1
        obtain rfl := Option.some.inj H
        go_enter Tryd.func156, Tryd.ntmps156
        go_wp2_with (first | ((with_reducible refine gate_dst (N := 1) rfl ?_); refine box_event ?hg (N := 1) ?hd (cs := #[.int .i64 a0_0, .int .i64 a0_1, .int .i64 a0_2, .int .i64 a0_3]) (t := 137) ?hr ?_; (case hd => rfl); (case hg => rfl); (case hr => first | (go_simp; done) | (go_simp; rfl)); intro gb567 hg w14 hbox hb; have n0_ := Aside0.mk (below_step (by repeat (first | (with_reducible first | exact HB.out | apply below_alloc | apply pw_below_drewN | apply below_drew1) | exact HB.out)) hb); have n1_ := Aside0.mk (hbox); have n2_ := Aside0.mk ((by rw [hg]; exact (below_size (by repeat (first | (with_reducible first | exact HB.out | apply below_alloc | apply pw_below_drewN | apply below_drew1) | exact HB.out))) : w.heap.size ≤ gb567)); have n3_ := Aside0.mk ((by rw [hg]; exact (below_size (by repeat (first | (with_reducible first | exact HB.out | apply below_alloc | apply pw_below_drewN | apply below_drew1) | exact HB.out))) : w.heap.size ≤ gb567)); clear HB; have HB := n0_; have BK567 := n1_; have GW567 := n2_; have GE567 := n3_; clear n0_ n1_ n2_ n3_; clear hb hbox hg; have hcz15_0 : w14.cell? ⟨gb567, 0, none⟩ = some (.int .i64 a0_0) := (blk_cell BK567.out 0).trans rfl; have hcz15_1 : w14.cell? ⟨gb567, 1, none⟩ = some (.int .i64 a0_1) := (blk_cell BK567.out 1).trans rfl; have hcz15_2 : w14.cell? ⟨gb567, 2, none⟩ = some (.int .i64 a0_2) := (blk_cell BK567.out 2).trans rfl; have hcz15_3 : w14.cell? ⟨gb567, 3, none⟩ = some (.int .i64 a0_3) := (blk_cell BK567.out 3).trans rfl; have hfz15_0 := blk_frozen BK567.out 0; have hfz15_1 := blk_frozen BK567.out 1; have hfz15_2 := blk_frozen BK567.out 2; have hfz15_3 := blk_frozen BK567.out 3) | ((with_reducible refine gate_callee (f := 177) rfl ?_); refine goesL_ (some 5) rfl rfl Tryd.func177 (by kernel_rfl) rfl #[.int .i64 a0_0, .int .i64 1, .int .i64 7] rfl (by (try simp only [List.map_toArray, List.map_cons, List.map_nil]); first | done | rfl | (simp only [List.length_drop, List.length_take]; rfl)) ?_; (with_reducible refine (logfile_within.calls a0_0 1 7 true _ A2.out).mono ?_); rintro e w' ⟨rfl, ⟨nd, rfl⟩⟩; refine ⟨_, rfl, ?_⟩) | (go_at_call 177; (with_reducible refine (logfile_within.calls a0_1 0 1099511627776 true _ A4.out).mono ?_); rintro e w' ⟨rfl, ⟨nd, rfl⟩⟩) | (go_at_call 177; (with_reducible refine (logfile_within.calls a0_2 0 1099511627776 false _ A6.out).mono ?_); rintro e w' ⟨rfl, ⟨nd, rfl⟩⟩))
        go_ret
        exact ⟨by first | rfl | (simp [errW_none, errW_some] <;> rfl) | (simp [*, errW_none, errW_some] <;> rfl) | (simp only [isEmpty_ne_, isEmpty_eq_]; rfl) | (simp [*, isEmpty_ne_, isEmpty_eq_]; done), by repeat (first | (with_reducible first | exact HB.out | apply below_alloc | apply pw_below_drewN | apply below_drew1 | refine below_set ?_ GE567.out) | exact HB.out)⟩
    · replace c5 := Bool.eq_false_iff.mpr c5
      subst c5
      have H1 : (some 252) = some r := by rw [if_neg (show ¬ (false = true) by decide)] at H; exact H
      clear H
      have H := H1
      clear H1
      obtain rfl := Option.some.inj H
      go_enter Tryd.func156, Tryd.ntmps156
      go_wp2_with (first | ((with_reducible refine gate_dst (N := 1) rfl ?_); refine box_event ?hg (N := 1) ?hd (cs := #[.int .i64 a0_0, .int .i64 a0_1, .int .i64 a0_2, .int .i64 a0_3]) (t := 137) ?hr ?_; (case hd => rfl); (case hg => rfl); (case hr => first | (go_simp; done) | (go_simp; rfl)); intro gb567 hg w16 hbox hb; have n0_ := Aside0.mk (below_step (by repeat (first | (with_reducible first | exact HB.out | apply below_alloc | apply pw_below_drewN | apply below_drew1) | exact HB.out)) hb); have n1_ := Aside0.mk (hbox); have n2_ := Aside0.mk ((by rw [hg]; exact (below_size (by repeat (first | (with_reducible first | exact HB.out | apply below_alloc | apply pw_below_drewN | apply below_drew1) | exact HB.out))) : w.heap.size ≤ gb567)); have n3_ := Aside0.mk ((by rw [hg]; exact (below_size (by repeat (first | (with_reducible first | exact HB.out | apply below_alloc | apply pw_below_drewN | apply below_drew1) | exact HB.out))) : w.heap.size ≤ gb567)); clear HB; have HB := n0_; have BK567 := n1_; have GW567 := n2_; have GE567 := n3_; clear n0_ n1_ n2_ n3_; clear hb hbox hg; have hcz17_0 : w16.cell? ⟨gb567, 0, none⟩ = some (.int .i64 a0_0) := (blk_cell BK567.out 0).trans rfl; have hcz17_1 : w16.cell? ⟨gb567, 1, none⟩ = some (.int .i64 a0_1) := (blk_cell BK567.out 1).trans rfl; have hcz17_2 : w16.cell? ⟨gb567, 2, none⟩ = some (.int .i64 a0_2) := (blk_cell BK567.out 2).trans rfl; have hcz17_3 : w16.cell? ⟨gb567, 3, none⟩ = some (.int .i64 a0_3) := (blk_cell BK567.out 3).trans rfl; have hfz17_0 := blk_frozen BK567.out 0; have hfz17_1 := blk_frozen BK567.out 1; have hfz17_2 := blk_frozen BK567.out 2; have hfz17_3 := blk_frozen BK567.out 3) | ((with_reducible refine gate_callee (f := 177) rfl ?_); refine goesL_ (some 5) rfl rfl Tryd.func177 (by kernel_rfl) rfl #[.int .i64 a0_0, .int .i64 1, .int .i64 7] rfl (by (try simp only [List.map_toArray, List.map_cons, List.map_nil]); first | done | rfl | (simp only [List.length_drop, List.length_take]; rfl)) ?_; (with_reducible refine (logfile_within.calls a0_0 1 7 true _ A2.out).mono ?_); rintro e w' ⟨rfl, ⟨nd, rfl⟩⟩; refine ⟨_, rfl, ?_⟩) | (go_at_call 177; (with_reducible refine (logfile_within.calls a0_1 0 1099511627776 false _ A4.out).mono ?_); rintro e w' ⟨rfl, ⟨nd, rfl⟩⟩))
      go_ret
      exact ⟨by first | rfl | (simp [errW_none, errW_some] <;> rfl) | (simp [*, errW_none, errW_some] <;> rfl) | (simp only [isEmpty_ne_, isEmpty_eq_]; rfl) | (simp [*, isEmpty_ne_, isEmpty_eq_]; done), by repeat (first | (with_reducible first | exact HB.out | apply below_alloc | apply pw_below_drewN | apply below_drew1 | refine below_set ?_ GE567.out) | exact HB.out)⟩
  · replace c3 := Bool.eq_false_iff.mpr c3
    subst c3
    have H1 : (some 252) = some r := by rw [if_neg (show ¬ (false = true) by decide)] at H; exact H
    clear H
    have H := H1
    clear H1
    obtain rfl := Option.some.inj H
    go_enter Tryd.func156, Tryd.ntmps156
    go_wp2_with (first | ((with_reducible refine gate_dst (N := 1) rfl ?_); refine box_event ?hg (N := 1) ?hd (cs := #[.int .i64 a0_0, .int .i64 a0_1, .int .i64 a0_2, .int .i64 a0_3]) (t := 137) ?hr ?_; (case hd => rfl); (case hg => rfl); (case hr => first | (go_simp; done) | (go_simp; rfl)); intro gb567 hg w18 hbox hb; have n0_ := Aside0.mk (below_step (by repeat (first | (with_reducible first | exact HB.out | apply below_alloc | apply pw_below_drewN | apply below_drew1) | exact HB.out)) hb); have n1_ := Aside0.mk (hbox); have n2_ := Aside0.mk ((by rw [hg]; exact (below_size (by repeat (first | (with_reducible first | exact HB.out | apply below_alloc | apply pw_below_drewN | apply below_drew1) | exact HB.out))) : w.heap.size ≤ gb567)); have n3_ := Aside0.mk ((by rw [hg]; exact (below_size (by repeat (first | (with_reducible first | exact HB.out | apply below_alloc | apply pw_below_drewN | apply below_drew1) | exact HB.out))) : w.heap.size ≤ gb567)); clear HB; have HB := n0_; have BK567 := n1_; have GW567 := n2_; have GE567 := n3_; clear n0_ n1_ n2_ n3_; clear hb hbox hg; have hcz19_0 : w18.cell? ⟨gb567, 0, none⟩ = some (.int .i64 a0_0) := (blk_cell BK567.out 0).trans rfl; have hcz19_1 : w18.cell? ⟨gb567, 1, none⟩ = some (.int .i64 a0_1) := (blk_cell BK567.out 1).trans rfl; have hcz19_2 : w18.cell? ⟨gb567, 2, none⟩ = some (.int .i64 a0_2) := (blk_cell BK567.out 2).trans rfl; have hcz19_3 : w18.cell? ⟨gb567, 3, none⟩ = some (.int .i64 a0_3) := (blk_cell BK567.out 3).trans rfl; have hfz19_0 := blk_frozen BK567.out 0; have hfz19_1 := blk_frozen BK567.out 1; have hfz19_2 := blk_frozen BK567.out 2; have hfz19_3 := blk_frozen BK567.out 3) | ((with_reducible refine gate_callee (f := 177) rfl ?_); refine goesL_ (some 5) rfl rfl Tryd.func177 (by kernel_rfl) rfl #[.int .i64 a0_0, .int .i64 1, .int .i64 7] rfl (by (try simp only [List.map_toArray, List.map_cons, List.map_nil]); first | done | rfl | (simp only [List.length_drop, List.length_take]; rfl)) ?_; (with_reducible refine (logfile_within.calls a0_0 1 7 false _ A2.out).mono ?_); rintro e w' ⟨rfl, ⟨nd, rfl⟩⟩; refine ⟨_, rfl, ?_⟩))
    go_ret
    exact ⟨by first | rfl | (simp [errW_none, errW_some] <;> rfl) | (simp [*, errW_none, errW_some] <;> rfl) | (simp only [isEmpty_ne_, isEmpty_eq_]; rfl) | (simp [*, isEmpty_ne_, isEmpty_eq_]; done), by repeat (first | (with_reducible first | exact HB.out | apply below_alloc | apply pw_below_drewN | apply below_drew1 | refine below_set ?_ GE567.out) | exact HB.out)⟩
mutual
def logfile_HostName.j0 : Nat → ByteArray → Bool → Option (Bool)
  | 0, _, _ => none
  | k + 1, x0, x12 => if x12 = true then (some false) else (logfile_HostName.l0 k x0 (x0.size : Int) 0)
def logfile_HostName.l0 : Nat → ByteArray → Int → Int → Option (Bool)
  | 0, _, _, _ => none
  | k + 1, x0, x14, x15 => if x15 < x14 then (if 0 ≤ x15 then (if x15 < (x0.size : Int) then (if (bt x0 x15) < 97 then (if (bt x0 x15) < 48 then (some false) else (if (bt x0 x15) > 57 then (some false) else (logfile_HostName.l0 k x0 x14 (wrap64 (x15 + 1))))) else (if (bt x0 x15) > 122 then (if (bt x0 x15) < 48 then (some false) else (if (bt x0 x15) > 57 then (some false) else (logfile_HostName.l0 k x0 x14 (wrap64 (x15 + 1))))) else (logfile_HostName.l0 k x0 x14 (wrap64 (x15 + 1))))) else (none)) else (none)) else (some true)
end
def logfile_HostName.f (k : Nat) (a0 : ByteArray) : Option (Bool) := if (a0.size : Int) < 1 then (logfile_HostName.j0 k a0 true) else (logfile_HostName.j0 k a0 (decide ((a0.size : Int) > 16)))
theorem logfile_HostName.mono_l : ∀ k, (∀ y0 y1, LeO (logfile_HostName.j0 k y0 y1) (logfile_HostName.j0 (k + 1) y0 y1)) ∧ (∀ y0 y1 y2, LeO (logfile_HostName.l0 k y0 y1 y2) (logfile_HostName.l0 (k + 1) y0 y1 y2))
  | 0 => ⟨fun _ _ r h => by simp [logfile_HostName.j0] at h, fun _ _ _ r h => by simp [logfile_HostName.l0] at h⟩
  | k + 1 => by
    obtain ⟨ih0, ih1⟩ := logfile_HostName.mono_l k
    refine ⟨?_, ?_⟩
    · intro y0 y1
      unfold logfile_HostName.j0
      repeat' first
      | (with_reducible exact ih0 _ _)
      | (with_reducible exact ih1 _ _ _)
      | (with_reducible exact LeO.refl _)
      | (with_reducible exact LeO.none _)
      | (with_reducible refine LeO.ite ?_ ?_)
      | (with_reducible refine LeO.bind ?_ (fun _ => ?_))
      | exact ih0 _ _
      | exact ih1 _ _ _
      | exact LeO.none _
      | refine LeO.ite ?_ ?_
      | refine LeO.bind ?_ (fun _ => ?_)
    · intro y0 y1 y2
      unfold logfile_HostName.l0
      repeat' first
      | (with_reducible exact ih0 _ _)
      | (with_reducible exact ih1 _ _ _)
      | (with_reducible exact LeO.refl _)
      | (with_reducible exact LeO.none _)
      | (with_reducible refine LeO.ite ?_ ?_)
      | (with_reducible refine LeO.bind ?_ (fun _ => ?_))
      | exact ih0 _ _
      | exact ih1 _ _ _
      | exact LeO.none _
      | refine LeO.ite ?_ ?_
      | refine LeO.bind ?_ (fun _ => ?_)
theorem logfile_HostName.mono : ∀ a0 k, LeO (logfile_HostName.f k a0) (logfile_HostName.f (k + 1) a0) := by
  intro a0 k
  obtain ⟨ih0, ih1⟩ := logfile_HostName.mono_l k
  unfold logfile_HostName.f
  repeat' first
      | (with_reducible exact ih0 _ _)
      | (with_reducible exact ih1 _ _ _)
      | (with_reducible exact LeO.refl _)
      | (with_reducible exact LeO.none _)
      | (with_reducible refine LeO.ite ?_ ?_)
      | (with_reducible refine LeO.bind ?_ (fun _ => ?_))
      | exact ih0 _ _
      | exact ih1 _ _ _
      | exact LeO.none _
      | refine LeO.ite ?_ ?_
      | refine LeO.bind ?_ (fun _ => ?_)
def logfile_checkRemote.f (k : Nat) (a0_0 : ByteArray) (a0_1 : Int) (a0_2 : Int) (l0_3 : List Int) : Option (Int) := (logfile_HostName.f k a0_0).bind fun t573 => (if t573 = true then ((logfile_within.f a0_1 1 1099511627776).bind fun t574 => (if t574 = true then ((logfile_within.f a0_2 1 1099511627776).bind fun t575 => (if t575 = true then ((logfile_within.f (l0_3.length : Int) 1 16320).bind fun t576 => (if t576 = true then (some 0) else (some 253))) else (some 253))) else (some 253))) else (some 253))
theorem logfile_checkRemote.mono : ∀ a0 a1 a2 a3 k, LeO (logfile_checkRemote.f k a0 a1 a2 a3) (logfile_checkRemote.f (k + 1) a0 a1 a2 a3) := by
  intro a0 a1 a2 a3 k
  unfold logfile_checkRemote.f
  repeat' first
      | (with_reducible exact logfile_HostName.mono _ _)
      | (with_reducible exact LeO.refl _)
      | (with_reducible exact LeO.none _)
      | (with_reducible refine LeO.ite ?_ ?_)
      | (with_reducible refine LeO.bind ?_ (fun _ => ?_))
      | exact logfile_HostName.mono _ _
      | exact LeO.none _
      | refine LeO.ite ?_ ?_
      | refine LeO.bind ?_ (fun _ => ?_)
end Go.Proofs.YtjnlmmjadlidlaaDoor.PRec
end
