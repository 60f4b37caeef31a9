/-
  A part of the proof of this: RecordGets holds for every input: Get returns the first pair of a name (the card).
-/
import Derived.Test.YtjnlmmjadlidlaaDoorQRg3
section
namespace Go.Proofs.YtjnlmmjadlidlaaDoor.PRec
open Go.RowKit Go.Proofs.YtjnlmmjadlidlaaDoorW.PrintWords Go.Proofs.YtjnlmmjadlidlaaDoorW.PrintLast Go.Proofs.YtjnlmmjadlidlaaDoorW.PrintMore
attribute [local go_sem] max2_int min2_int max_two min_two max_three min_three max_four min_four
set_option linter.unusedVariables false
set_option linter.unusedSimpArgs false
def kauditlaw03_agrees.f (k : Nat) (a0_0 : Int) (a0_1 : Int) (a0_2 : Int) (l0_3 : List (S34)) : Option (Bool) := (record_Format.f k a0_0 a0_1 a0_2 l0_3).bind fun bt237 => ((kauditref03_Format.f k a0_0 a0_1 a0_2 l0_3).bind fun bt239 => ((record_Check.f k a0_0 a0_1 a0_2 l0_3).bind fun t241 => ((kauditref03_Check.f k a0_0 a0_1 a0_2 l0_3).bind fun t242 => (if t241 = t242 then (if bt237.2 = bt239.2 then (some (bt237.1.toList == bt239.1.toList)) else (some false)) else (some false)))))
theorem kauditlaw03_agrees.mono : ∀ a0 a1 a2 a3 k, LeO (kauditlaw03_agrees.f k a0 a1 a2 a3) (kauditlaw03_agrees.f (k + 1) a0 a1 a2 a3) := by
  intro a0 a1 a2 a3 k
  unfold kauditlaw03_agrees.f
  repeat' first
      | (with_reducible exact kauditref03_Check.mono _ _ _ _ _)
      | (with_reducible exact kauditref03_Format.mono _ _ _ _ _)
      | (with_reducible exact record_Check.mono _ _ _ _ _)
      | (with_reducible exact record_Format.mono _ _ _ _ _)
      | (with_reducible exact LeO.refl _)
      | (with_reducible exact LeO.none _)
      | (with_reducible refine LeO.ite ?_ ?_)
      | (with_reducible refine LeO.bind ?_ (fun _ => ?_))
      | exact kauditref03_Check.mono _ _ _ _ _
      | exact kauditref03_Format.mono _ _ _ _ _
      | exact record_Check.mono _ _ _ _ _
      | exact record_Format.mono _ _ _ _ _
      | exact LeO.none _
      | refine LeO.ite ?_ ?_
      | refine LeO.bind ?_ (fun _ => ?_)
def kauditlaw03_RecordChecks.f (k : Nat) (a0_0 : Int) (a0_1 : Int) (a0_2 : Int) (l0_3 : List (S34)) : Option (Bool) := (kauditlaw03_light.f k a0_0 a0_1 a0_2 l0_3).bind fun t244 => (if t244 = true then ((kauditlaw03_agrees.f k a0_0 a0_1 a0_2 l0_3).bind fun t246 => (if t246 = true then ((kauditlaw03_agrees.f k 1302 (Go.bits .and .i64 a0_1 1099511627775) (Go.bits .and .i64 a0_2 1073741823) l0_3).bind fun t247 => (if t247 = true then ((kauditlaw03_awake.f k).bind fun t248 => (some t248)) else (some false))) else (some false))) else ((kauditlaw03_awake.f k).bind fun t245 => (some t245)))
theorem kauditlaw03_RecordChecks.mono : ∀ a0 a1 a2 a3 k, LeO (kauditlaw03_RecordChecks.f k a0 a1 a2 a3) (kauditlaw03_RecordChecks.f (k + 1) a0 a1 a2 a3) := by
  intro a0 a1 a2 a3 k
  unfold kauditlaw03_RecordChecks.f
  repeat' first
      | (with_reducible exact kauditlaw03_agrees.mono _ _ _ _ _)
      | (with_reducible exact kauditlaw03_awake.mono _)
      | (with_reducible exact kauditlaw03_light.mono _ _ _ _ _)
      | (with_reducible exact LeO.refl _)
      | (with_reducible exact LeO.none _)
      | (with_reducible refine LeO.ite ?_ ?_)
      | (with_reducible refine LeO.bind ?_ (fun _ => ?_))
      | exact kauditlaw03_agrees.mono _ _ _ _ _
      | exact kauditlaw03_awake.mono _
      | exact kauditlaw03_light.mono _ _ _ _ _
      | exact LeO.none _
      | refine LeO.ite ?_ ?_
      | refine LeO.bind ?_ (fun _ => ?_)
def IsS107 (w0 W : World) (g : Nat) (f0 : List Int) (f1 : Int) : Prop := ∃ A0 c0, W.heap[g]? = some (.cells #[.slice A0 f0.length c0, .int .i64 f1] 107 (0, 0)) ∧ w0.heap.size ≤ g ∧ Kd.C (Kd.int .i64) w0 A0 f0.length f0
theorem IsS107.grown {w0 W : World} {g : Nat} {f0 : List Int} {f1 : Int} {W1 : World} {row : Option Nat} (h : IsS107 w0 W g f0 f1) (hw : W.grownBy W1 row) (hne : some g ≠ row) : IsS107 w0 W1 g f0 f1 := by
  obtain ⟨A0, c0, hb, hg, hr0⟩ := h
  exact ⟨A0, c0, blk_grown hb hw hne, hg, hr0⟩
theorem IsS107.kept {w0 W : World} {g : Nat} {f0 : List Int} {f1 : Int} {W1 : World} {S : Nat → Prop} (h : IsS107 w0 W g f0 f1) (hk : Kept W W1 S) (hne : ¬ S g) : IsS107 w0 W1 g f0 f1 := by
  obtain ⟨A0, c0, hb, hg, hr0⟩ := h
  exact ⟨A0, c0, blk_kept hb hk hne, hg, hr0⟩
theorem IsS107.below {w0 W : World} {g : Nat} {f0 : List Int} {f1 : Int} {W1 : World} (h : IsS107 w0 W g f0 f1) (hw : Below W.heap.size W W1) : IsS107 w0 W1 g f0 f1 := h.grown (grown_of_below hw none) (by simp)
theorem IsS107.alloc {w0 W : World} {g : Nat} {f0 : List Int} {f1 : Int} (h : IsS107 w0 W g f0 f1) (o : Obj) : IsS107 w0 (W.alloc o) g f0 f1 := h.below (below_alloc (Below.refl _ _) o)
theorem IsS107.drewN {w0 W : World} {g : Nat} {f0 : List Int} {f1 : Int} (h : IsS107 w0 W g f0 f1) (m : Nat) : IsS107 w0 (W.drewN m) g f0 f1 := h
theorem IsS107.drew {w0 W : World} {g : Nat} {f0 : List Int} {f1 : Int} (h : IsS107 w0 W g f0 f1) : IsS107 w0 W.drew g f0 f1 := h
theorem IsS107.at_ {w0 W : World} {g : Nat} {f0 : List Int} {f1 : Int} {w' : World} {m : Nat} (hq : W.drewN m = w') (h : IsS107 w0 W g f0 f1) : IsS107 w0 w' g f0 f1 := by subst hq; exact IsS107.drewN h m
theorem IsS107.apart {w0 W : World} {g : Nat} {f0 : List Int} {f1 : Int} {α : Type} {d : Kd α} {e : Nat} {base : Nat} {ok : Nat → Prop} {v : Value} {xs : List α} (h : IsS107 w0 W g f0 f1) (ho : d.R e W base ok v xs) (ht : ∀ q, q ∈ e :: d.E → q ≠ 107) : d.R e W base (fun k => ok k ∧ k ≠ g) v xs := by
  obtain ⟨A0, c0, hb, hg, hr0⟩ := h
  exact Kd.R_types ho hb ht
theorem IsS107.own_ne {w0 W : World} {g : Nat} {f0 : List Int} {f1 : Int} {α : Type} {d : Kd α} {e : Nat} {base : Nat} {ok : Nat → Prop} {v : Value} {xs : List α} (h : IsS107 w0 W g f0 f1) (ho : d.R e W base ok v xs) (ht : e ≠ 107) : some g ≠ v.ownBlock := by
  obtain ⟨A0, c0, hb, hg, hr0⟩ := h
  exact Kd.R_ne ho hb ht
theorem IsS107.lt {w0 W : World} {g : Nat} {f0 : List Int} {f1 : Int} (h : IsS107 w0 W g f0 f1) : g < W.heap.size := by
  obtain ⟨A0, c0, hb, hg, hr0⟩ := h
  exact blk_lt hb
theorem IsS107.ge {w0 W : World} {g : Nat} {f0 : List Int} {f1 : Int} (h : IsS107 w0 W g f0 f1) : w0.heap.size ≤ g := by
  obtain ⟨A0, c0, hb, hg, hr0⟩ := h
  exact hg
theorem IsS107.ne_blk {w0 W : World} {g : Nat} {f0 : List Int} {f1 : Int} {a : Nat} {cs : Array Value} {t : TypeId} {fr : Nat × Nat} (h : IsS107 w0 W g f0 f1) (hb2 : W.heap[a]? = some (.cells cs t fr)) (ht : t ≠ 107) : g ≠ a := by
  obtain ⟨A0, c0, hb, hg, hr0⟩ := h
  rintro rfl
  rw [hb] at hb2
  injection hb2 with hb2
  injection hb2 with _ ht2
  exact ht ht2.symm
theorem IsS107.far {w0 W : World} {g : Nat} {f0 : List Int} {f1 : Int} {p : Addr} (h : IsS107 w0 W g f0 f1) (hne : g ≠ p.block) (u : Value) : IsS107 w0 (W.setCell p u) g f0 f1 := by
  obtain ⟨A0, c0, hb, hg, hr0⟩ := h
  exact ⟨A0, c0, blk_far hb hne u, hg, hr0⟩
theorem cellS107_0 {W : World} {g : Nat} {A0 : Option Addr} {c0 : Nat} {f0 : List Int} {f1 : Int} (h : W.heap[g]? = some (.cells #[.slice A0 f0.length c0, .int .i64 f1] 107 (0, 0))) : W.cell? ⟨g, 0, none⟩ = some (.slice A0 f0.length c0) := (blk_cell h 0).trans rfl
theorem cellS107_1 {W : World} {g : Nat} {A0 : Option Addr} {c0 : Nat} {f0 : List Int} {f1 : Int} (h : W.heap[g]? = some (.cells #[.slice A0 f0.length c0, .int .i64 f1] 107 (0, 0))) : W.cell? ⟨g, 1, none⟩ = some (.int .i64 f1) := (blk_cell h 1).trans rfl
theorem IsS107.set_1 {w0 W : World} {g : Nat} {f0 : List Int} {f1 : Int} (h : IsS107 w0 W g f0 f1) (x : Int) : IsS107 w0 (W.setCell ⟨g, 1, none⟩ (.int .i64 x)) g f0 x := by
  obtain ⟨A0, c0, hb, hg, hr0⟩ := h
  exact ⟨A0, c0, by simpa using blk_set hb 1 (.int .i64 x), hg, hr0⟩
def kauditmake_New.f (l0 : List Int) : Option (List Int × Int) := some (l0, 0)
set_option maxHeartbeats 8000000 in
set_option maxRecDepth 100000 in
theorem kauditmake_New.calls (A0 : Option Addr) (c0 : Nat) (l0 : List Int) (r1 : List Int) (r2 : Int) (w0 w : World) (hB : Below w0.heap.size w0 w) (hr0 : Kd.C (Kd.int .i64) w0 A0 l0.length l0) (hc0 : l0.length ≤ c0) (h : kauditmake_New.f l0 = some (r1, r2)) :
    Calls Tryd.prog 32 #[.slice A0 l0.length c0] w fun e w' => ∃ g_ : Nat, e = .returned (.pointer (some ⟨g_, 0, none⟩)) ∧ IsS107 w0 w' g_ r1 r2 ∧ Below w0.heap.size w0 w' ∧ Below w.heap.size w w' := by
  have hu107 := Tryd.underlying107
  have HR0 := Aside0.mk hr0
  have HC0 := Aside0.mk hc0
  clear hr0 hc0
  have HBW := Aside0.mk (Below.refl w.heap.size w)
  have HW0 := Aside0.mk hB.size
  have HB := Aside0.mk hB
  clear hB
  have H : (some (l0, 0)) = some (r1, r2) := h
  clear h
  simp only [Option.some.injEq, Prod.mk.injEq] at H
  obtain ⟨rfl, rfl⟩ := H
  go_enter Tryd.func32, Tryd.ntmps32
  go_wp2_with (first | ((with_reducible refine gate_dst (N := 5) rfl ?_); refine box_event ?hg (N := 5) ?hd (cs := #[.slice A0 l0.length c0, .int .i64 0]) (t := 107) ?hr ?_; (case hd => rfl); (case hg => rfl); (case hr => first | (go_simp; done) | (go_simp; rfl)); intro gb249 hg w2 hbox hb; have n0_ := Aside0.mk (below_step HBW.out hb); have n1_ := Aside0.mk (below_step (by repeat (first | (with_reducible first | exact HB.out | apply below_alloc | apply pw_below_drewN | apply below_drew1) | exact HB.out)) hb); have n2_ := Aside0.mk (hbox); have n3_ := Aside0.mk ((by rw [hg]; exact (below_size (by repeat (first | (with_reducible first | exact HBW.out | apply below_alloc | apply pw_below_drewN | apply below_drew1) | exact HBW.out))) : w.heap.size ≤ gb249)); have n4_ := Aside0.mk ((Nat.le_trans HW0.out (by rw [hg]; exact (below_size (by repeat (first | (with_reducible first | exact HBW.out | apply below_alloc | apply pw_below_drewN | apply below_drew1) | exact HBW.out))) : w.heap.size ≤ gb249) : w0.heap.size ≤ gb249)); clear HBW; clear HB; have HBW := n0_; have HB := n1_; have BK249 := n2_; have GW249 := n3_; have GE249 := n4_; clear n0_ n1_ n2_ n3_ n4_; clear hb hbox hg))
  go_ret
  exact ⟨_, rfl, (show IsS107 w0 _ gb249 l0 0 from ⟨_, _, by (with_reducible repeat (first | refine blk_drewN ?_ _ | refine blk_drew ?_ | refine blk_alloc ?_ _)); exact BK249.out, GE249.out, HR0.out⟩), by repeat (first | (with_reducible first | exact HB.out | apply below_alloc | apply pw_below_drewN | apply below_drew1 | refine below_set ?_ GE249.out) | exact HB.out), by repeat (first | (with_reducible first | exact HBW.out | apply below_alloc | apply pw_below_drewN | apply below_drew1 | refine below_set ?_ GW249.out) | exact HBW.out)⟩
end Go.Proofs.YtjnlmmjadlidlaaDoor.PRec
end
section
namespace Go.Proofs.YtjnlmmjadlidlaaDoor.PRec
open Go.RowKit Go.Proofs.YtjnlmmjadlidlaaDoorW.PrintWords Go.Proofs.YtjnlmmjadlidlaaDoorW.PrintLast Go.Proofs.YtjnlmmjadlidlaaDoorW.PrintMore
attribute [local go_sem] max2_int min2_int max_two min_two max_three min_three max_four min_four
set_option linter.unusedVariables false
set_option linter.unusedSimpArgs false
def kauditmake_Src_N.f (s0_0 : List Int) (s0_1 : Int) (a1 : Int) : Option (Int × Int) := if a1 < 1 then (some (0, s0_1)) else (if (wrap64 (s0_1 + 1)) ≤ (s0_0.length : Int) then (if 0 ≤ (wrap64 ((wrap64 (s0_1 + 1)) - 1)) then (if (wrap64 ((wrap64 (s0_1 + 1)) - 1)) < (s0_0.length : Int) then (if a1 = 0 then (none) else (if (Int.tmod (rd s0_0 (wrap64 ((wrap64 (s0_1 + 1)) - 1))) a1) < 0 then (some (wrap64 ((Int.tmod (rd s0_0 (wrap64 ((wrap64 (s0_1 + 1)) - 1))) a1) + a1), wrap64 (s0_1 + 1))) else (some (Int.tmod (rd s0_0 (wrap64 ((wrap64 (s0_1 + 1)) - 1))) a1, wrap64 (s0_1 + 1))))) else (none)) else (none)) else (if a1 = 0 then (none) else (if (Int.tmod (wrap64 ((wrap64 (s0_1 + 1)) * 7)) a1) < 0 then (some (wrap64 ((Int.tmod (wrap64 ((wrap64 (s0_1 + 1)) * 7)) a1) + a1), wrap64 (s0_1 + 1))) else (some (Int.tmod (wrap64 ((wrap64 (s0_1 + 1)) * 7)) a1, wrap64 (s0_1 + 1))))))
set_option maxHeartbeats 8000000 in
set_option maxRecDepth 100000 in
theorem kauditmake_Src_N.calls (g : Nat) (s0_0 : List Int) (s0_1 : Int) (a1 : Int) (r1 : Int) (r2 : Int) (w0 w : World) (hI : IsS107 w0 w g s0_0 s0_1) (hB : Below w0.heap.size w0 w) (h : kauditmake_Src_N.f s0_0 s0_1 a1 = some (r1, r2)) :
    Calls Tryd.prog 34 #[.pointer (some ⟨g, 0, none⟩), .int .i64 a1] w fun e w' => e = .returned (.int .i64 r1) ∧ IsS107 w0 w' g s0_0 r2 ∧ Below w0.heap.size w0 w' ∧ KeepBut w w' g none := by
  have HI0 := Aside0.mk hI
  have HK := Aside0.mk (KeepBut.refl w g none)
  have HL := Aside0.mk hB.size
  clear hI
  have HW0 := Aside0.mk hB.size
  have HB := Aside0.mk hB
  clear hB
  have H : (if a1 < 1 then (some (0, s0_1)) else (if (wrap64 (s0_1 + 1)) ≤ (s0_0.length : Int) then (if 0 ≤ (wrap64 ((wrap64 (s0_1 + 1)) - 1)) then (if (wrap64 ((wrap64 (s0_1 + 1)) - 1)) < (s0_0.length : Int) then (if a1 = 0 then (none) else (if (Int.tmod (rd s0_0 (wrap64 ((wrap64 (s0_1 + 1)) - 1))) a1) < 0 then (some (wrap64 ((Int.tmod (rd s0_0 (wrap64 ((wrap64 (s0_1 + 1)) - 1))) a1) + a1), wrap64 (s0_1 + 1))) else (some (Int.tmod (rd s0_0 (wrap64 ((wrap64 (s0_1 + 1)) - 1))) a1, wrap64 (s0_1 + 1))))) else (none)) else (none)) else (if a1 = 0 then (none) else (if (Int.tmod (wrap64 ((wrap64 (s0_1 + 1)) * 7)) a1) < 0 then (some (wrap64 ((Int.tmod (wrap64 ((wrap64 (s0_1 + 1)) * 7)) a1) + a1), wrap64 (s0_1 + 1))) else (some (Int.tmod (wrap64 ((wrap64 (s0_1 + 1)) * 7)) a1, wrap64 (s0_1 + 1))))))) = some (r1, r2) := h
  clear h
  by_cases c3 : a1 < 1
  · rw [if_pos c3] at H
    have c3b0 : decide (a1 < 1) = true := decide_eq_true c3
    clear c3
    simp only [Option.some.injEq, Prod.mk.injEq] at H
    obtain ⟨rfl, rfl⟩ := H
    go_enter Tryd.func34, Tryd.ntmps34
    go_wp2
    repeat (go_quiet (fail); try go_wp2)
    go_ret
    exact ⟨by first | rfl | (simp [errW_none, errW_some] <;> rfl) | (simp [*, errW_none, errW_some] <;> rfl) | (simp only [isEmpty_ne_, isEmpty_eq_]; rfl) | (simp [*, isEmpty_ne_, isEmpty_eq_]; done), by repeat (first | (with_reducible first | exact HI0.out | apply IsS107.alloc | apply IsS107.drewN | apply IsS107.drew | apply IsS107.set_1) | exact HI0.out), by repeat (first | (with_reducible first | exact HB.out | apply below_alloc | apply pw_below_drewN | apply below_drew1 | refine below_set ?_ (IsS107.ge HI0.out)) | exact HB.out), by repeat (first | (with_reducible first | exact HK.out | apply KeepBut.set_ | apply keep_drewN | apply keep_drew | apply keep_alloc) | exact HK.out)⟩
  · rw [if_neg c3] at H
    have c3b0 : decide (a1 < 1) = false := decide_eq_false c3
    clear c3
    by_cases c4 : (wrap64 (s0_1 + 1)) ≤ (s0_0.length : Int)
    · rw [if_pos c4] at H
      have c4b0 : decide ((wrap64 (s0_1 + 1)) ≤ (s0_0.length : Int)) = true := decide_eq_true c4
      clear c4
      obtain ⟨ji5, hji5⟩ : ∃ j_ : Int, (wrap64 ((wrap64 (s0_1 + 1)) - 1)) = j_ := ⟨_, rfl⟩
      replace H : (if 0 ≤ (ji5) then (if (ji5) < (s0_0.length : Int) then (if a1 = 0 then (none) else (if (Int.tmod (rd s0_0 (ji5)) a1) < 0 then (some (wrap64 ((Int.tmod (rd s0_0 (ji5)) a1) + a1), wrap64 (s0_1 + 1))) else (some (Int.tmod (rd s0_0 (ji5)) a1, wrap64 (s0_1 + 1))))) else (none)) else (none)) = some (r1, r2) := by first | (rw [hji5] at H; exact H) | (simp only [hji5] at H ⊢; exact H)
      have hji5w : (IntKind.i64.wrap ((wrap64 (s0_1 + 1)) - 1)) = ji5 := (i64_w _).trans hji5
      by_cases c6 : 0 ≤ (ji5)
      · rw [if_pos c6] at H
        have c6b0 : decide (0 ≤ (ji5)) = true := decide_eq_true c6
        clear c6
        by_cases c7 : (ji5) < (s0_0.length : Int)
        · rw [if_pos c7] at H
          have c7b0 : decide ((ji5) < (s0_0.length : Int)) = true := decide_eq_true c7
          clear c7
          by_cases c8 : a1 = 0
          · rw [if_pos c8] at H
            exact absurd H (by simp)
          · rw [if_neg c8] at H
            have c8b0 : (a1 == 0) = false := beq_eq_false_iff_ne.mpr c8
            have c8b1 : (a1 != 0) = true := bne_iff_ne.mpr c8
            by_cases c9 : (Int.tmod (rd s0_0 (ji5)) a1) < 0
            · rw [if_pos c9] at H
              have c9b0 : decide ((Int.tmod (rd s0_0 (ji5)) a1) < 0) = true := decide_eq_true c9
              clear c9
              simp only [Option.some.injEq, Prod.mk.injEq] at H
              obtain ⟨rfl, rfl⟩ := H
              obtain ⟨ASz10_0, cSz10_0, HGz10, hgz10, HSz10_0⟩ := HI0.out
              have hcz10_0 := cellS107_0 HGz10
              have hcz10_1 := cellS107_1 HGz10
              have hfz10_1 := blk_frozen HGz10 1
              clear HGz10 hgz10
              have p250 : 0 ≤ ((ji5) : Int) := of_decide_eq_true (by first | (with_reducible assumption) | assumption)
              have q250 : (ji5) < (s0_0.length : Int) := of_decide_eq_true (by first | (with_reducible assumption) | assumption)
              obtain ⟨ad250, e250, hx250_0⟩ := Kd.at_int HSz10_0 (ji5) p250 q250
              cases e250
              have hn250_0 : ad250.block ≠ g := Nat.ne_of_lt (Nat.lt_of_lt_of_le (by have := World.block_lt_of_cell? _ _ hx250_0; first | rwa [add_block] at this | exact this) (IsS107.ge HI0.out))
              replace hx250_0 := pw_cell_below HB.out hx250_0
              replace hx250_0 := (cell_far (p := ⟨g, 1, none⟩) (by first | (rw [add_block]; exact hn250_0) | (show (Addr.add _ _).block ≠ _; rw [add_block]; exact hn250_0) | exact hn250_0) (.int .i64 (wrap64 (s0_1 + 1)))).trans hx250_0
              (try have hy250_0 := fun (n_ : Nat) => (show (((w.drewN n_).setCell ⟨g, 1, none⟩ (.int .i64 (wrap64 (s0_1 + 1))))).cell? _ = some _ from hx250_0))
              clear hn250_0
              replace p250 := eq_true p250
              replace q250 := eq_true q250
              go_enter Tryd.func34, Tryd.ntmps34
              go_wp2
              repeat (go_quiet (fail); try go_wp2)
              go_ret
              exact ⟨by first | rfl | (simp [errW_none, errW_some] <;> rfl) | (simp only [← hji5]; first | rfl | (simp [errW_none, errW_some] <;> rfl)) | (simp [*, errW_none, errW_some] <;> rfl) | (simp only [isEmpty_ne_, isEmpty_eq_]; rfl) | (simp [*, isEmpty_ne_, isEmpty_eq_]; done), by repeat (first | (with_reducible first | exact HI0.out | apply IsS107.alloc | apply IsS107.drewN | apply IsS107.drew | apply IsS107.set_1) | exact HI0.out), by repeat (first | (with_reducible first | exact HB.out | apply below_alloc | apply pw_below_drewN | apply below_drew1 | refine below_set ?_ (IsS107.ge HI0.out)) | exact HB.out), by repeat (first | (with_reducible first | exact HK.out | apply KeepBut.set_ | apply keep_drewN | apply keep_drew | apply keep_alloc) | exact HK.out)⟩
            · rw [if_neg c9] at H
              have c9b0 : decide ((Int.tmod (rd s0_0 (ji5)) a1) < 0) = false := decide_eq_false c9
              clear c9
              simp only [Option.some.injEq, Prod.mk.injEq] at H
              obtain ⟨rfl, rfl⟩ := H
              obtain ⟨ASz11_0, cSz11_0, HGz11, hgz11, HSz11_0⟩ := HI0.out
              have hcz11_0 := cellS107_0 HGz11
              have hcz11_1 := cellS107_1 HGz11
              have hfz11_1 := blk_frozen HGz11 1
              clear HGz11 hgz11
              have p250 : 0 ≤ ((ji5) : Int) := of_decide_eq_true (by first | (with_reducible assumption) | assumption)
              have q250 : (ji5) < (s0_0.length : Int) := of_decide_eq_true (by first | (with_reducible assumption) | assumption)
              obtain ⟨ad250, e250, hx250_0⟩ := Kd.at_int HSz11_0 (ji5) p250 q250
              cases e250
              have hn250_0 : ad250.block ≠ g := Nat.ne_of_lt (Nat.lt_of_lt_of_le (by have := World.block_lt_of_cell? _ _ hx250_0; first | rwa [add_block] at this | exact this) (IsS107.ge HI0.out))
              replace hx250_0 := pw_cell_below HB.out hx250_0
              replace hx250_0 := (cell_far (p := ⟨g, 1, none⟩) (by first | (rw [add_block]; exact hn250_0) | (show (Addr.add _ _).block ≠ _; rw [add_block]; exact hn250_0) | exact hn250_0) (.int .i64 (wrap64 (s0_1 + 1)))).trans hx250_0
              (try have hy250_0 := fun (n_ : Nat) => (show (((w.drewN n_).setCell ⟨g, 1, none⟩ (.int .i64 (wrap64 (s0_1 + 1))))).cell? _ = some _ from hx250_0))
              clear hn250_0
              replace p250 := eq_true p250
              replace q250 := eq_true q250
              go_enter Tryd.func34, Tryd.ntmps34
              go_wp2
              repeat (go_quiet (fail); try go_wp2)
              go_ret
              exact ⟨by first | rfl | (simp [errW_none, errW_some] <;> rfl) | (simp only [← hji5]; first | rfl | (simp [errW_none, errW_some] <;> rfl)) | (simp [*, errW_none, errW_some] <;> rfl) | (simp only [isEmpty_ne_, isEmpty_eq_]; rfl) | (simp [*, isEmpty_ne_, isEmpty_eq_]; done), by repeat (first | (with_reducible first | exact HI0.out | apply IsS107.alloc | apply IsS107.drewN | apply IsS107.drew | apply IsS107.set_1) | exact HI0.out), by repeat (first | (with_reducible first | exact HB.out | apply below_alloc | apply pw_below_drewN | apply below_drew1 | refine below_set ?_ (IsS107.ge HI0.out)) | exact HB.out), by repeat (first | (with_reducible first | exact HK.out | apply KeepBut.set_ | apply keep_drewN | apply keep_drew | apply keep_alloc) | exact HK.out)⟩
        · rw [if_neg c7] at H
          exact absurd H (by simp)
      · rw [if_neg c6] at H
        exact absurd H (by simp)
    · rw [if_neg c4] at H
      have c4b0 : decide ((wrap64 (s0_1 + 1)) ≤ (s0_0.length : Int)) = false := decide_eq_false c4
      clear c4
      by_cases c12 : a1 = 0
      · rw [if_pos c12] at H
        exact absurd H (by simp)
      · rw [if_neg c12] at H
        have c12b0 : (a1 == 0) = false := beq_eq_false_iff_ne.mpr c12
        have c12b1 : (a1 != 0) = true := bne_iff_ne.mpr c12
        by_cases c13 : (Int.tmod (wrap64 ((wrap64 (s0_1 + 1)) * 7)) a1) < 0
        · rw [if_pos c13] at H
          have c13b0 : decide ((Int.tmod (wrap64 ((wrap64 (s0_1 + 1)) * 7)) a1) < 0) = true := decide_eq_true c13
          clear c13
          simp only [Option.some.injEq, Prod.mk.injEq] at H
          obtain ⟨rfl, rfl⟩ := H
          obtain ⟨ASz14_0, cSz14_0, HGz14, hgz14, HSz14_0⟩ := HI0.out
          have hcz14_0 := cellS107_0 HGz14
          have hcz14_1 := cellS107_1 HGz14
          have hfz14_1 := blk_frozen HGz14 1
          clear HGz14 hgz14
          go_enter Tryd.func34, Tryd.ntmps34
          go_wp2
          repeat (go_quiet (fail); try go_wp2)
          go_ret
          exact ⟨by first | rfl | (simp [errW_none, errW_some] <;> rfl) | (simp [*, errW_none, errW_some] <;> rfl) | (simp only [isEmpty_ne_, isEmpty_eq_]; rfl) | (simp [*, isEmpty_ne_, isEmpty_eq_]; done), by repeat (first | (with_reducible first | exact HI0.out | apply IsS107.alloc | apply IsS107.drewN | apply IsS107.drew | apply IsS107.set_1) | exact HI0.out), by repeat (first | (with_reducible first | exact HB.out | apply below_alloc | apply pw_below_drewN | apply below_drew1 | refine below_set ?_ (IsS107.ge HI0.out)) | exact HB.out), by repeat (first | (with_reducible first | exact HK.out | apply KeepBut.set_ | apply keep_drewN | apply keep_drew | apply keep_alloc) | exact HK.out)⟩
        · rw [if_neg c13] at H
          have c13b0 : decide ((Int.tmod (wrap64 ((wrap64 (s0_1 + 1)) * 7)) a1) < 0) = false := decide_eq_false c13
          clear c13
          simp only [Option.some.injEq, Prod.mk.injEq] at H
          obtain ⟨rfl, rfl⟩ := H
          obtain ⟨ASz15_0, cSz15_0, HGz15, hgz15, HSz15_0⟩ := HI0.out
          have hcz15_0 := cellS107_0 HGz15
          have hcz15_1 := cellS107_1 HGz15
          have hfz15_1 := blk_frozen HGz15 1
          clear HGz15 hgz15
          go_enter Tryd.func34, Tryd.ntmps34
          go_wp2
          repeat (go_quiet (fail); try go_wp2)
          go_ret
          exact ⟨by first | rfl | (simp [errW_none, errW_some] <;> rfl) | (simp [*, errW_none, errW_some] <;> rfl) | (simp only [isEmpty_ne_, isEmpty_eq_]; rfl) | (simp [*, isEmpty_ne_, isEmpty_eq_]; done), by repeat (first | (with_reducible first | exact HI0.out | apply IsS107.alloc | apply IsS107.drewN | apply IsS107.drew | apply IsS107.set_1) | exact HI0.out), by repeat (first | (with_reducible first | exact HB.out | apply below_alloc | apply pw_below_drewN | apply below_drew1 | refine below_set ?_ (IsS107.ge HI0.out)) | exact HB.out), by repeat (first | (with_reducible first | exact HK.out | apply KeepBut.set_ | apply keep_drewN | apply keep_drew | apply keep_alloc) | exact HK.out)⟩
def kauditmake_Src_Pick.f (s0_0 : List Int) (s0_1 : Int) (l1 : List Int) : Option (Int × Int) := (kauditmake_Src_N.f s0_0 s0_1 (l1.length : Int)).bind fun bt251 => (if 0 ≤ bt251.1 then (if bt251.1 < (l1.length : Int) then (some (rd l1 bt251.1, bt251.2)) else (none)) else (none))
set_option maxHeartbeats 8000000 in
set_option maxRecDepth 100000 in
theorem kauditmake_Src_Pick.calls (g : Nat) (s0_0 : List Int) (s0_1 : Int) (A1 : Option Addr) (c1 : Nat) (l1 : List Int) (r1 : Int) (r2 : Int) (w0 w : World) (hI : IsS107 w0 w g s0_0 s0_1) (hB : Below w0.heap.size w0 w) (hr1 : Kd.C (Kd.int .i64) w A1 l1.length l1) (hc1 : l1.length ≤ c1) (hf1 : ∀ ad, A1 = some ad → 0 < l1.length → ad.block ≠ g) (h : kauditmake_Src_Pick.f s0_0 s0_1 l1 = some (r1, r2)) :
    Calls Tryd.prog 74 #[.pointer (some ⟨g, 0, none⟩), .slice A1 l1.length c1] w fun e w' => e = .returned (.int .i64 r1) ∧ IsS107 w0 w' g s0_0 r2 ∧ Below w0.heap.size w0 w' ∧ KeepBut w w' g none := by
  have HR1 := Aside0.mk hr1
  have HC1 := Aside0.mk hc1
  clear hr1 hc1
  have HI0 := Aside0.mk hI
  have HK := Aside0.mk (KeepBut.refl w g none)
  have HL := Aside0.mk hB.size
  clear hI
  have HW0 := Aside0.mk hB.size
  have HB := Aside0.mk hB
  clear hB
  have H : ((kauditmake_Src_N.f s0_0 s0_1 (l1.length : Int)).bind fun bt251 => (if 0 ≤ bt251.1 then (if bt251.1 < (l1.length : Int) then (some (rd l1 bt251.1, bt251.2)) else (none)) else (none))) = some (r1, r2) := h
  clear h
  replace H := Option.bind_eq_some_iff.mp H
  obtain ⟨⟨t251, t252⟩, A30, H⟩ := H
  replace H : (if 0 ≤ t251 then (if t251 < (l1.length : Int) then (some (rd l1 t251, t252)) else (none)) else (none)) = some (r1, r2) := H
  have A3 := Aside0.mk A30
  clear A30
  by_cases c4 : 0 ≤ t251
  · rw [if_pos c4] at H
    have c4b0 : decide (0 ≤ t251) = true := decide_eq_true c4
    clear c4
    by_cases c5 : t251 < (l1.length : Int)
    · rw [if_pos c5] at H
      have c5b0 : decide (t251 < (l1.length : Int)) = true := decide_eq_true c5
      clear c5
      simp only [Option.some.injEq, Prod.mk.injEq] at H
      obtain ⟨rfl, rfl⟩ := H
      go_enter Tryd.func74, Tryd.ntmps74
      go_wp2_with (first | ((with_reducible refine gate_callee (f := 34) rfl ?_); refine goesL_ (some 9) rfl rfl Tryd.func34 (by kernel_rfl) rfl #[.pointer (some ⟨g, 0, none⟩), .int .i64 (l1.length : Int)] rfl (by (try simp only [List.map_toArray, List.map_cons, List.map_nil]); first | done | rfl | (simp only [List.length_drop, List.length_take]; rfl)) ?_; (with_reducible refine (kauditmake_Src_N.calls g s0_0 s0_1 (l1.length : Int) t251 t252 w0 _ ?side1 ?side2 A3.out).mono ?_); (case side1 => repeat (first | (with_reducible first | exact HI0.out | apply IsS107.alloc | apply IsS107.drewN | apply IsS107.drew | apply IsS107.set_1) | exact HI0.out)); (case side2 => repeat (first | (with_reducible first | exact HB.out | apply below_alloc | apply pw_below_drewN | apply below_drew1 | refine below_set ?_ (IsS107.ge HI0.out)) | exact HB.out)); rintro e w6 ⟨rfl, hi, hb, hk⟩; refine ⟨_, rfl, ?_⟩; have n0_ := Aside0.mk (KeepBut.trans (by repeat (first | (with_reducible first | exact HK.out | apply KeepBut.set_ | apply keep_drewN | apply keep_drew | apply keep_alloc) | exact HK.out)) hk (.inl rfl)); have n1_ := Aside0.mk (hb); have n2_ := Aside0.mk (hi); clear HK; clear HB; clear HI0; have HK := n0_; have HB := n1_; have HI0 := n2_; clear n0_ n1_ n2_; (try clear hb); (try clear hb2); (try clear hk); (try clear hi); have p253 : 0 ≤ (t251 : Int) := of_decide_eq_true (by first | (with_reducible assumption) | assumption); have q253 : t251 < (l1.length : Int) := of_decide_eq_true (by first | (with_reducible assumption) | assumption); obtain ⟨ad253, e253, hx253_0⟩ := Kd.at_int HR1.out t251 p253 q253; cases e253; replace hx253_0 := keep_cell HK.out hx253_0 (by first | (rw [add_block]; exact hf1 _ rfl (by omega)) | exact hf1 _ rfl (by omega) | exact hf1 ad253 rfl (by omega)); replace p253 := eq_true p253; replace q253 := eq_true q253))
      go_ret
      exact ⟨by first | rfl | (simp [errW_none, errW_some] <;> rfl) | (simp [*, errW_none, errW_some] <;> rfl) | (simp only [isEmpty_ne_, isEmpty_eq_]; rfl) | (simp [*, isEmpty_ne_, isEmpty_eq_]; done), by repeat (first | (with_reducible first | exact HI0.out | apply IsS107.alloc | apply IsS107.drewN | apply IsS107.drew | apply IsS107.set_1) | exact HI0.out), by repeat (first | (with_reducible first | exact HB.out | apply below_alloc | apply pw_below_drewN | apply below_drew1 | refine below_set ?_ (IsS107.ge HI0.out)) | exact HB.out), by repeat (first | (with_reducible first | exact HK.out | apply KeepBut.set_ | apply keep_drewN | apply keep_drew | apply keep_alloc) | exact HK.out)⟩
    · rw [if_neg c5] at H
      exact absurd H (by simp)
  · rw [if_neg c4] at H
    exact absurd H (by simp)
def kauditmake_Src_Range.f (s0_0 : List Int) (s0_1 : Int) (a1 : Int) (a2 : Int) : Option (Int × Int) := (kauditmake_Src_N.f s0_0 s0_1 (wrap64 ((wrap64 (a2 - a1)) + 1))).bind fun bt254 => (some (wrap64 (a1 + bt254.1), bt254.2))
set_option maxHeartbeats 8000000 in
set_option maxRecDepth 100000 in
theorem kauditmake_Src_Range.calls (g : Nat) (s0_0 : List Int) (s0_1 : Int) (a1 : Int) (a2 : Int) (r1 : Int) (r2 : Int) (w0 w : World) (hI : IsS107 w0 w g s0_0 s0_1) (hB : Below w0.heap.size w0 w) (h : kauditmake_Src_Range.f s0_0 s0_1 a1 a2 = some (r1, r2)) :
    Calls Tryd.prog 75 #[.pointer (some ⟨g, 0, none⟩), .int .i64 a1, .int .i64 a2] w fun e w' => e = .returned (.int .i64 r1) ∧ IsS107 w0 w' g s0_0 r2 ∧ Below w0.heap.size w0 w' ∧ KeepBut w w' g none := by
  have HI0 := Aside0.mk hI
  have HK := Aside0.mk (KeepBut.refl w g none)
  have HL := Aside0.mk hB.size
  clear hI
  have HW0 := Aside0.mk hB.size
  have HB := Aside0.mk hB
  clear hB
  have H : ((kauditmake_Src_N.f s0_0 s0_1 (wrap64 ((wrap64 (a2 - a1)) + 1))).bind fun bt254 => (some (wrap64 (a1 + bt254.1), bt254.2))) = some (r1, r2) := h
  clear h
  replace H := Option.bind_eq_some_iff.mp H
  obtain ⟨⟨t254, t255⟩, A40, H⟩ := H
  replace H : (some (wrap64 (a1 + t254), t255)) = some (r1, r2) := H
  have A4 := Aside0.mk A40
  clear A40
  simp only [Option.some.injEq, Prod.mk.injEq] at H
  obtain ⟨rfl, rfl⟩ := H
  go_enter Tryd.func75, Tryd.ntmps75
  go_wp2_with (first | ((with_reducible refine gate_callee (f := 34) rfl ?_); refine goesL_ (some 13) rfl rfl Tryd.func34 (by kernel_rfl) rfl #[.pointer (some ⟨g, 0, none⟩), .int .i64 (wrap64 ((wrap64 (a2 - a1)) + 1))] rfl (by (try simp only [List.map_toArray, List.map_cons, List.map_nil]); first | done | rfl | (simp only [List.length_drop, List.length_take]; rfl)) ?_; (with_reducible refine (kauditmake_Src_N.calls g s0_0 s0_1 (wrap64 ((wrap64 (a2 - a1)) + 1)) t254 t255 w0 _ ?side1 ?side2 A4.out).mono ?_); (case side1 => repeat (first | (with_reducible first | exact HI0.out | apply IsS107.alloc | apply IsS107.drewN | apply IsS107.drew | apply IsS107.set_1) | exact HI0.out)); (case side2 => repeat (first | (with_reducible first | exact HB.out | apply below_alloc | apply pw_below_drewN | apply below_drew1 | refine below_set ?_ (IsS107.ge HI0.out)) | exact HB.out)); rintro e w5 ⟨rfl, hi, hb, hk⟩; refine ⟨_, rfl, ?_⟩; have n0_ := Aside0.mk (KeepBut.trans (by repeat (first | (with_reducible first | exact HK.out | apply KeepBut.set_ | apply keep_drewN | apply keep_drew | apply keep_alloc) | exact HK.out)) hk (.inl rfl)); have n1_ := Aside0.mk (hb); have n2_ := Aside0.mk (hi); clear HK; clear HB; clear HI0; have HK := n0_; have HB := n1_; have HI0 := n2_; clear n0_ n1_ n2_; (try clear hb); (try clear hb2); (try clear hk); (try clear hi)))
  go_ret
  exact ⟨by first | rfl | (simp [errW_none, errW_some] <;> rfl) | (simp [*, errW_none, errW_some] <;> rfl) | (simp only [isEmpty_ne_, isEmpty_eq_]; rfl) | (simp [*, isEmpty_ne_, isEmpty_eq_]; done), by repeat (first | (with_reducible first | exact HI0.out | apply IsS107.alloc | apply IsS107.drewN | apply IsS107.drew | apply IsS107.set_1) | exact HI0.out), by repeat (first | (with_reducible first | exact HB.out | apply below_alloc | apply pw_below_drewN | apply below_drew1 | refine below_set ?_ (IsS107.ge HI0.out)) | exact HB.out), by repeat (first | (with_reducible first | exact HK.out | apply KeepBut.set_ | apply keep_drewN | apply keep_drew | apply keep_alloc) | exact HK.out)⟩
def kauditmake_Src_Word.f (s0_0 : List Int) (s0_1 : Int) (l1 : List ByteArray) : Option (ByteArray × Int) := (kauditmake_Src_N.f s0_0 s0_1 (l1.length : Int)).bind fun bt256 => (if 0 ≤ bt256.1 then (if bt256.1 < (l1.length : Int) then (some (rdOf ByteArray.empty l1 bt256.1, bt256.2)) else (none)) else (none))
set_option maxHeartbeats 8000000 in
set_option maxRecDepth 100000 in
theorem kauditmake_Src_Word.calls (g : Nat) (s0_0 : List Int) (s0_1 : Int) (A1 : Option Addr) (c1 : Nat) (l1 : List ByteArray) (r1 : ByteArray) (r2 : Int) (w0 w : World) (hI : IsS107 w0 w g s0_0 s0_1) (hB : Below w0.heap.size w0 w) (hr1 : Kd.C Kd.string w A1 l1.length l1) (hc1 : l1.length ≤ c1) (hf1 : ∀ ad, A1 = some ad → 0 < l1.length → ad.block ≠ g) (h : kauditmake_Src_Word.f s0_0 s0_1 l1 = some (r1, r2)) :
    Calls Tryd.prog 76 #[.pointer (some ⟨g, 0, none⟩), .slice A1 l1.length c1] w fun e w' => e = .returned (.string r1) ∧ IsS107 w0 w' g s0_0 r2 ∧ Below w0.heap.size w0 w' ∧ KeepBut w w' g none := by
  have HR1 := Aside0.mk hr1
  have HC1 := Aside0.mk hc1
  clear hr1 hc1
  have HI0 := Aside0.mk hI
  have HK := Aside0.mk (KeepBut.refl w g none)
  have HL := Aside0.mk hB.size
  clear hI
  have HW0 := Aside0.mk hB.size
  have HB := Aside0.mk hB
  clear hB
  have H : ((kauditmake_Src_N.f s0_0 s0_1 (l1.length : Int)).bind fun bt256 => (if 0 ≤ bt256.1 then (if bt256.1 < (l1.length : Int) then (some (rdOf ByteArray.empty l1 bt256.1, bt256.2)) else (none)) else (none))) = some (r1, r2) := h
  clear h
  replace H := Option.bind_eq_some_iff.mp H
  obtain ⟨⟨t256, t257⟩, A30, H⟩ := H
  replace H : (if 0 ≤ t256 then (if t256 < (l1.length : Int) then (some (rdOf ByteArray.empty l1 t256, t257)) else (none)) else (none)) = some (r1, r2) := H
  have A3 := Aside0.mk A30
  clear A30
  by_cases c4 : 0 ≤ t256
  · rw [if_pos c4] at H
    have c4b0 : decide (0 ≤ t256) = true := decide_eq_true c4
    clear c4
    by_cases c5 : t256 < (l1.length : Int)
    · rw [if_pos c5] at H
      have c5b0 : decide (t256 < (l1.length : Int)) = true := decide_eq_true c5
      clear c5
      simp only [Option.some.injEq, Prod.mk.injEq] at H
      obtain ⟨rfl, rfl⟩ := H
      go_enter Tryd.func76, Tryd.ntmps76
      go_wp2_with (first | ((with_reducible refine gate_callee (f := 34) rfl ?_); refine goesL_ (some 9) rfl rfl Tryd.func34 (by kernel_rfl) rfl #[.pointer (some ⟨g, 0, none⟩), .int .i64 (l1.length : Int)] rfl (by (try simp only [List.map_toArray, List.map_cons, List.map_nil]); first | done | rfl | (simp only [List.length_drop, List.length_take]; rfl)) ?_; (with_reducible refine (kauditmake_Src_N.calls g s0_0 s0_1 (l1.length : Int) t256 t257 w0 _ ?side1 ?side2 A3.out).mono ?_); (case side1 => repeat (first | (with_reducible first | exact HI0.out | apply IsS107.alloc | apply IsS107.drewN | apply IsS107.drew | apply IsS107.set_1) | exact HI0.out)); (case side2 => repeat (first | (with_reducible first | exact HB.out | apply below_alloc | apply pw_below_drewN | apply below_drew1 | refine below_set ?_ (IsS107.ge HI0.out)) | exact HB.out)); rintro e w6 ⟨rfl, hi, hb, hk⟩; refine ⟨_, rfl, ?_⟩; have n0_ := Aside0.mk (KeepBut.trans (by repeat (first | (with_reducible first | exact HK.out | apply KeepBut.set_ | apply keep_drewN | apply keep_drew | apply keep_alloc) | exact HK.out)) hk (.inl rfl)); have n1_ := Aside0.mk (hb); have n2_ := Aside0.mk (hi); clear HK; clear HB; clear HI0; have HK := n0_; have HB := n1_; have HI0 := n2_; clear n0_ n1_ n2_; (try clear hb); (try clear hb2); (try clear hk); (try clear hi); have p258 : 0 ≤ (t256 : Int) := of_decide_eq_true (by first | (with_reducible assumption) | assumption); have q258 : t256 < (l1.length : Int) := of_decide_eq_true (by first | (with_reducible assumption) | assumption); obtain ⟨ad258, e258, hx258_0⟩ := Kd.at_string HR1.out t256 p258 q258; cases e258; replace hx258_0 := keep_cell HK.out hx258_0 (by first | (rw [add_block]; exact hf1 _ rfl (by omega)) | exact hf1 _ rfl (by omega) | exact hf1 ad258 rfl (by omega)); replace p258 := eq_true p258; replace q258 := eq_true q258))
      go_ret
      exact ⟨by first | rfl | (simp [errW_none, errW_some] <;> rfl) | (simp [*, errW_none, errW_some] <;> rfl) | (simp only [isEmpty_ne_, isEmpty_eq_]; rfl) | (simp [*, isEmpty_ne_, isEmpty_eq_]; done), by repeat (first | (with_reducible first | exact HI0.out | apply IsS107.alloc | apply IsS107.drewN | apply IsS107.drew | apply IsS107.set_1) | exact HI0.out), by repeat (first | (with_reducible first | exact HB.out | apply below_alloc | apply pw_below_drewN | apply below_drew1 | refine below_set ?_ (IsS107.ge HI0.out)) | exact HB.out), by repeat (first | (with_reducible first | exact HK.out | apply KeepBut.set_ | apply keep_drewN | apply keep_drew | apply keep_alloc) | exact HK.out)⟩
    · rw [if_neg c5] at H
      exact absurd H (by simp)
  · rw [if_neg c4] at H
    exact absurd H (by simp)
def kauditmake_Src_Text.l0 : Nat → ByteArray → Int → List Int → Int → Option (ByteArray × Int)
  | 0, _, _, _, _ => none
  | k + 1, x3, x4, x1000, x1001 => if x4 > 0 then ((kauditmake_Src_Word.f x1000 x1001 (([(⟨#[97]⟩ : ByteArray), (⟨#[66]⟩ : ByteArray), (⟨#[55]⟩ : ByteArray), (⟨#[47]⟩ : ByteArray), (⟨#[34]⟩ : ByteArray), (⟨#[32]⟩ : ByteArray), (⟨#[0]⟩ : ByteArray), (⟨#[255]⟩ : ByteArray), (⟨#[61]⟩ : ByteArray), (⟨#[10]⟩ : ByteArray), (⟨#[126]⟩ : ByteArray), (⟨#[33]⟩ : ByteArray)] : List ByteArray))).bind fun bt264 => (if x3.size + bt264.1.size ≤ 9223372036854775807 then (kauditmake_Src_Text.l0 k (x3 ++ bt264.1) (wrap64 (x4 - 1)) x1000 bt264.2) else (none))) else (some (x3, x1001))
def kauditmake_Src_Text.f (k : Nat) (s0_0 : List Int) (s0_1 : Int) : Option (ByteArray × Int) := (kauditmake_Src_N.f s0_0 s0_1 5).bind fun bt259 => (kauditmake_Src_Text.l0 k (⟨#[]⟩ : ByteArray) bt259.1 s0_0 bt259.2)
theorem kauditmake_Src_Text.mono_l : ∀ k, (∀ y0 y1 y2 y3, LeO (kauditmake_Src_Text.l0 k y0 y1 y2 y3) (kauditmake_Src_Text.l0 (k + 1) y0 y1 y2 y3))
  | 0 => fun _ _ _ _ r h => by simp [kauditmake_Src_Text.l0] at h
  | k + 1 => by
    have ih0 := kauditmake_Src_Text.mono_l k
    · intro y0 y1 y2 y3
      unfold kauditmake_Src_Text.l0
      repeat' first
      | (with_reducible exact ih0 _ _ _ _)
      | (with_reducible exact LeO.refl _)
      | (with_reducible exact LeO.none _)
      | (with_reducible refine LeO.ite ?_ ?_)
      | (with_reducible refine LeO.bind ?_ (fun _ => ?_))
      | exact ih0 _ _ _ _
      | exact LeO.none _
      | refine LeO.ite ?_ ?_
      | refine LeO.bind ?_ (fun _ => ?_)
theorem kauditmake_Src_Text.mono : ∀ a0 a1 k, LeO (kauditmake_Src_Text.f k a0 a1) (kauditmake_Src_Text.f (k + 1) a0 a1) := by
  intro a0 a1 k
  have ih0 := kauditmake_Src_Text.mono_l k
  unfold kauditmake_Src_Text.f
  repeat' first
      | (with_reducible exact ih0 _ _ _ _)
      | (with_reducible exact LeO.refl _)
      | (with_reducible exact LeO.none _)
      | (with_reducible refine LeO.ite ?_ ?_)
      | (with_reducible refine LeO.bind ?_ (fun _ => ?_))
      | exact ih0 _ _ _ _
      | exact LeO.none _
      | refine LeO.ite ?_ ?_
      | refine LeO.bind ?_ (fun _ => ?_)
set_option maxHeartbeats 8000000 in
set_option maxRecDepth 100000 in
theorem kauditmake_Src_Text.calls (k : Nat) (g : Nat) (s0_0 : List Int) (s0_1 : Int) (r1 : ByteArray) (r2 : Int) (w0 w : World) (hI : IsS107 w0 w g s0_0 s0_1) (hB : Below w0.heap.size w0 w) (h : kauditmake_Src_Text.f k s0_0 s0_1 = some (r1, r2)) :
    Calls Tryd.prog 77 #[.pointer (some ⟨g, 0, none⟩)] w fun e w' => e = .returned (.string r1) ∧ IsS107 w0 w' g s0_0 r2 ∧ Below w0.heap.size w0 w' ∧ KeepBut w w' g none := by
  have HI0 := Aside0.mk hI
  have HK := Aside0.mk (KeepBut.refl w g none)
  have HL := Aside0.mk hB.size
  clear hI
  have HW0 := Aside0.mk hB.size
  have HB := Aside0.mk hB
  clear hB
  have H : ((kauditmake_Src_N.f s0_0 s0_1 5).bind fun bt259 => (kauditmake_Src_Text.l0 k (⟨#[]⟩ : ByteArray) bt259.1 s0_0 bt259.2)) = some (r1, r2) := h
  clear h
  replace H := Option.bind_eq_some_iff.mp H
  obtain ⟨⟨t259, t260⟩, A20, H⟩ := H
  replace H : (kauditmake_Src_Text.l0 k (⟨#[]⟩ : ByteArray) t259 s0_0 t260) = some (r1, r2) := H
  have A2 := Aside0.mk A20
  clear A20
  have H' := Aside0.mk H
  clear H
  go_enter Tryd.func77, Tryd.ntmps77
  go_wp2_with (first | ((with_reducible refine gate_callee (f := 34) rfl ?_); refine goesL_ (some 6) rfl rfl Tryd.func34 (by kernel_rfl) rfl #[.pointer (some ⟨g, 0, none⟩), .int .i64 5] rfl (by (try simp only [List.map_toArray, List.map_cons, List.map_nil]); first | done | rfl | (simp only [List.length_drop, List.length_take]; rfl)) ?_; (with_reducible refine (kauditmake_Src_N.calls g s0_0 s0_1 5 t259 t260 w0 _ ?side1 ?side2 A2.out).mono ?_); (case side1 => repeat (first | (with_reducible first | exact HI0.out | apply IsS107.alloc | apply IsS107.drewN | apply IsS107.drew | apply IsS107.set_1) | exact HI0.out)); (case side2 => repeat (first | (with_reducible first | exact HB.out | apply below_alloc | apply pw_below_drewN | apply below_drew1 | refine below_set ?_ (IsS107.ge HI0.out)) | exact HB.out)); rintro e w3 ⟨rfl, hi, hb, hk⟩; refine ⟨_, rfl, ?_⟩; have n0_ := Aside0.mk (KeepBut.trans (by repeat (first | (with_reducible first | exact HK.out | apply KeepBut.set_ | apply keep_drewN | apply keep_drew | apply keep_alloc) | exact HK.out)) hk (.inl rfl)); have n1_ := Aside0.mk (hb); have n2_ := Aside0.mk (hi); clear HK; clear HB; clear HI0; have HK := n0_; have HB := n1_; have HI0 := n2_; clear n0_ n1_ n2_; (try clear hb); (try clear hb2); (try clear hk); (try clear hi)))
  go_loopg [3, 4] k (fun kq v3 v4 w' => ∃ (x3_1 : ByteArray) (x4_1 : Int) (x1001_1 : Int), v3 = .string x3_1 ∧ v4 = .int .i64 x4_1 ∧ Aside0 (kauditmake_Src_Text.l0 kq x3_1 x4_1 s0_0 x1001_1 = some (r1, r2)) ∧ Aside0 (kq ≤ k) ∧ Aside0 (IsS107 w0 w' g s0_0 x1001_1) ∧ Aside0 (KeepBut w w' g none) ∧ Aside0 (Below w0.heap.size w0 w'))
  case atStart => exact ⟨((⟨#[]⟩ : ByteArray)), (t259), (t260), (by first | rfl | (simp; done) | (simp [*]; done) | (simp only [isEmpty_ne_]; done)), (by first | rfl | (simp; done) | (simp [*]; done) | (simp only [isEmpty_ne_]; done)), H', ⟨Nat.le_refl _⟩, ⟨by repeat (first | (with_reducible first | exact HI0.out | apply IsS107.alloc | apply IsS107.drewN | apply IsS107.drew | apply IsS107.set_1) | exact HI0.out)⟩, ⟨by repeat (first | (with_reducible first | exact HK.out | apply KeepBut.set_ | apply keep_drewN | apply keep_drew | apply keep_alloc) | exact HK.out)⟩, ⟨by repeat (first | (with_reducible first | exact HB.out | apply below_alloc | apply pw_below_drewN | apply below_drew1 | refine below_set ?_ (IsS107.ge HI0.out)) | exact HB.out)⟩⟩
  case round =>
    clear H'
    try clear p2
    try clear c3
    obtain ⟨x3_1, x4_1, x1001_1, rfl, rfl, HA, HK1, HI0, HK, HB⟩ := hrel
    cases gk with
    | zero => exact absurd HA.out (by simp [kauditmake_Src_Text.l0])
    | succ k1 =>
      have H := HA.out
      clear HA
      simp only [kauditmake_Src_Text.l0] at H
      by_cases c4 : x4_1 > 0
      · rw [if_pos c4] at H
        have c4b0 : decide (0 < x4_1) = true := decide_eq_true c4
        clear c4
        obtain ⟨y261, hy261⟩ : ∃ y_ : List ByteArray, y_ = (([(⟨#[97]⟩ : ByteArray), (⟨#[66]⟩ : ByteArray), (⟨#[55]⟩ : ByteArray), (⟨#[47]⟩ : ByteArray), (⟨#[34]⟩ : ByteArray), (⟨#[32]⟩ : ByteArray), (⟨#[0]⟩ : ByteArray), (⟨#[255]⟩ : ByteArray), (⟨#[61]⟩ : ByteArray), (⟨#[10]⟩ : ByteArray), (⟨#[126]⟩ : ByteArray), (⟨#[33]⟩ : ByteArray)] : List ByteArray)) := ⟨_, rfl⟩
        replace H : ((kauditmake_Src_Word.f s0_0 x1001_1 y261).bind fun bt264 => (if x3_1.size + bt264.1.size ≤ 9223372036854775807 then (kauditmake_Src_Text.l0 k1 (x3_1 ++ bt264.1) (wrap64 (x4_1 - 1)) s0_0 bt264.2) else (none))) = some (r1, r2) := by first | (rw [hy261]; with_reducible exact H) | (have H2_ := (Option.bind_some _ _).symm.trans H; rw [hy261]; with_reducible exact H2_) | (have H2_ := (Option.bind_some _ _).symm.trans H; with_reducible exact H2_) | with_reducible exact H | (rw [hy261]; exact H) | exact H
        have Ny261 := Aside0.mk hy261
        clear hy261
        replace H := Option.bind_eq_some_iff.mp H
        obtain ⟨⟨t264, t265⟩, A50, H⟩ := H
        replace H : (if x3_1.size + t264.size ≤ 9223372036854775807 then (kauditmake_Src_Text.l0 k1 (x3_1 ++ t264) (wrap64 (x4_1 - 1)) s0_0 t265) else (none)) = some (r1, r2) := H
        have A5 := Aside0.mk A50
        clear A50
        by_cases c6 : x3_1.size + t264.size ≤ 9223372036854775807
        · rw [if_pos c6] at H
          have c6b0 := eq_true c6
          have c6b1 : decide (x3_1.size + t264.size ≤ 9223372036854775807) = true := decide_eq_true c6
          try have c6b2 : (9223372036854775807 < x3_1.size + t264.size) = False := eq_false (Nat.not_lt.2 c6)
          have H' := Aside0.mk H
          clear H
          go_wp2_with (first | ((with_reducible refine gate_dst (N := 13) rfl ?_); refine Kd.R_lit Kd.string _ 9 ?hg (N := 13) ?hd (xs := ([(⟨#[97]⟩ : ByteArray), (⟨#[66]⟩ : ByteArray), (⟨#[55]⟩ : ByteArray), (⟨#[47]⟩ : ByteArray), (⟨#[34]⟩ : ByteArray), (⟨#[32]⟩ : ByteArray), (⟨#[0]⟩ : ByteArray), (⟨#[255]⟩ : ByteArray), (⟨#[61]⟩ : ByteArray), (⟨#[10]⟩ : ByteArray), (⟨#[126]⟩ : ByteArray), (⟨#[33]⟩ : ByteArray)] : List ByteArray)) (inner := [.string (⟨#[97]⟩ : ByteArray), .string (⟨#[66]⟩ : ByteArray), .string (⟨#[55]⟩ : ByteArray), .string (⟨#[47]⟩ : ByteArray), .string (⟨#[34]⟩ : ByteArray), .string (⟨#[32]⟩ : ByteArray), .string (⟨#[0]⟩ : ByteArray), .string (⟨#[255]⟩ : ByteArray), .string (⟨#[61]⟩ : ByteArray), .string (⟨#[10]⟩ : ByteArray), .string (⟨#[126]⟩ : ByteArray), .string (⟨#[33]⟩ : ByteArray)]) (ok := fun _ => True) (okp := fun _ => True) ?hr ?hp (fun _ hk => hk) trivial (Below.refl _ _) (Nat.le_refl _) (by simp) ?_; (case hd => rfl); (case hg => rfl); (case hr => first | (go_simp; done) | (go_simp; rfl)); (case hp => exact (Reps.one (show Kd.M Kd.string _ _ _ (⟨#[97]⟩ : ByteArray) [.string (⟨#[97]⟩ : ByteArray)] from rfl) (Reps.one (show Kd.M Kd.string _ _ _ (⟨#[66]⟩ : ByteArray) [.string (⟨#[66]⟩ : ByteArray)] from rfl) (Reps.one (show Kd.M Kd.string _ _ _ (⟨#[55]⟩ : ByteArray) [.string (⟨#[55]⟩ : ByteArray)] from rfl) (Reps.one (show Kd.M Kd.string _ _ _ (⟨#[47]⟩ : ByteArray) [.string (⟨#[47]⟩ : ByteArray)] from rfl) (Reps.one (show Kd.M Kd.string _ _ _ (⟨#[34]⟩ : ByteArray) [.string (⟨#[34]⟩ : ByteArray)] from rfl) (Reps.one (show Kd.M Kd.string _ _ _ (⟨#[32]⟩ : ByteArray) [.string (⟨#[32]⟩ : ByteArray)] from rfl) (Reps.one (show Kd.M Kd.string _ _ _ (⟨#[0]⟩ : ByteArray) [.string (⟨#[0]⟩ : ByteArray)] from rfl) (Reps.one (show Kd.M Kd.string _ _ _ (⟨#[255]⟩ : ByteArray) [.string (⟨#[255]⟩ : ByteArray)] from rfl) (Reps.one (show Kd.M Kd.string _ _ _ (⟨#[61]⟩ : ByteArray) [.string (⟨#[61]⟩ : ByteArray)] from rfl) (Reps.one (show Kd.M Kd.string _ _ _ (⟨#[10]⟩ : ByteArray) [.string (⟨#[10]⟩ : ByteArray)] from rfl) (Reps.one (show Kd.M Kd.string _ _ _ (⟨#[126]⟩ : ByteArray) [.string (⟨#[126]⟩ : ByteArray)] from rfl) (Reps.one (show Kd.M Kd.string _ _ _ (⟨#[33]⟩ : ByteArray) [.string (⟨#[33]⟩ : ByteArray)] from rfl) (Reps.none _ _)))))))))))))); intro v262 w7 ho8 hb hg_ hnew_; clear hg_ hnew_; (first | rw [← Ny261.out] at ho8 | (simp only [Int.reduceToNat] at ho8; rw [← Ny261.out] at ho8)); have n0_ := Aside0.mk (Kd.R_lower ho8 (keep_size (w := w) (g := g) (row := none) (by repeat (first | (with_reducible first | exact HK.out | apply KeepBut.set_ | apply keep_drewN | apply keep_drew | apply keep_alloc) | exact HK.out)))); have n1_ := Aside0.mk (IsS107.below (by repeat (first | (with_reducible first | exact HI0.out | apply IsS107.alloc | apply IsS107.drewN | apply IsS107.drew | apply IsS107.set_1) | exact HI0.out)) hb); have n2_ := Aside0.mk (KeepBut.trans (by repeat (first | (with_reducible first | exact HK.out | apply KeepBut.set_ | apply keep_drewN | apply keep_drew | apply keep_alloc) | exact HK.out)) (KeepBut.of_below hb g none) (.inl rfl)); have n3_ := Aside0.mk (below_step (by repeat (first | (with_reducible first | exact HB.out | apply below_alloc | apply pw_below_drewN | apply below_drew1 | refine below_set ?_ (IsS107.ge HI0.out)) | exact HB.out)) hb); clear HI0; clear HK; clear HB; have HO263 := n0_; have HI0 := n1_; have HK := n2_; have HB := n3_; clear n0_ n1_ n2_ n3_; clear hb ho8; obtain ⟨Ao9, co9, eo9⟩ := Kd.R_slice HO263.out; subst eo9) | ((with_reducible refine gate_callee (f := 76) rfl ?_); refine goesL_ (some 14) rfl rfl Tryd.func76 (by kernel_rfl) rfl #[.pointer (some ⟨g, 0, none⟩), .slice Ao9 y261.length co9] rfl (by (try simp only [List.map_toArray, List.map_cons, List.map_nil]); first | done | rfl | (simp only [List.length_drop, List.length_take]; rfl)) ?_; (with_reducible refine (kauditmake_Src_Word.calls g s0_0 x1001_1 _ _ y261 t264 t265 w0 _ ?side1 ?side2 ?side3 ?side4 ?side5 A5.out).mono ?_); (case side1 => repeat (first | (with_reducible first | exact HI0.out | apply IsS107.alloc | apply IsS107.drewN | apply IsS107.drew | apply IsS107.set_1) | exact HI0.out)); (case side2 => repeat (first | (with_reducible first | exact HB.out | apply below_alloc | apply pw_below_drewN | apply below_drew1 | refine below_set ?_ (IsS107.ge HI0.out)) | exact HB.out)); (case side3 => repeat (first | exact (Kd.R_reads' HO263.out).2.2 | (with_reducible refine Kd.C_alloc ?_ _) | (with_reducible refine Kd.C_drewN ?_ _) | (with_reducible refine Kd.C_drew ?_))); (case side4 => exact (Kd.R_reads' HO263.out).2.1); (case side5 => exact far_slice (IsS107.own_ne HI0.out HO263.out (by decide))); rintro e w10 ⟨rfl, hi, hb, hk⟩; refine ⟨_, rfl, ?_⟩; have n0_ := Aside0.mk (Kd.R_mono (Kd.R_keep (IsS107.apart (show IsS107 w0 _ g s0_0 x1001_1 from by repeat (first | (with_reducible first | exact HI0.out | apply IsS107.alloc | apply IsS107.drewN | apply IsS107.drew | apply IsS107.set_1) | exact HI0.out)) (by (with_reducible repeat (first | apply Kd.R_alloc | apply Kd.R_drewN | apply Kd.R_drew)); exact HO263.out) (by decide)) hk (fun _ h => h.2)) (fun _ h => h.1)); have n1_ := Aside0.mk (KeepBut.trans (by repeat (first | (with_reducible first | exact HK.out | apply KeepBut.set_ | apply keep_drewN | apply keep_drew | apply keep_alloc) | exact HK.out)) hk (.inl rfl)); have n2_ := Aside0.mk (hb); have n3_ := Aside0.mk (hi); clear HO263; clear HK; clear HB; clear HI0; have HO263 := n0_; have HK := n1_; have HB := n2_; have HI0 := n3_; clear n0_ n1_ n2_ n3_; (try clear hb); (try clear hb2); (try clear hk); (try clear hi)))
          go_roundg k1
          case measure => have := HK1.out; omega
          case rel => exact ⟨(x3_1 ++ t264), (wrap64 (x4_1 - 1)), (t265), (by first | rfl | (simp; done) | (simp [*]; done) | (simp only [isEmpty_ne_]; done)), (by first | rfl | (simp; done) | (simp [*]; done) | (simp only [isEmpty_ne_]; done)), H', ⟨by have := HK1.out; omega⟩, ⟨by repeat (first | (with_reducible first | exact HI0.out | apply IsS107.alloc | apply IsS107.drewN | apply IsS107.drew | apply IsS107.set_1) | exact HI0.out)⟩, ⟨by repeat (first | (with_reducible first | exact HK.out | apply KeepBut.set_ | apply keep_drewN | apply keep_drew | apply keep_alloc) | exact HK.out)⟩, ⟨by repeat (first | (with_reducible first | exact HB.out | apply below_alloc | apply pw_below_drewN | apply below_drew1 | refine below_set ?_ (IsS107.ge HI0.out)) | exact HB.out)⟩⟩
        · rw [if_neg c6] at H
          exact absurd H (by simp)
      · rw [if_neg c4] at H
        have c4b0 : decide (0 < x4_1) = false := decide_eq_false c4
        clear c4
        simp only [Option.some.injEq, Prod.mk.injEq] at H
        obtain ⟨rfl, rfl⟩ := H
        go_wp2
        go_ret
        exact ⟨by first | rfl | (simp [errW_none, errW_some] <;> rfl) | (simp [*, errW_none, errW_some] <;> rfl) | (simp only [isEmpty_ne_, isEmpty_eq_]; rfl) | (simp [*, isEmpty_ne_, isEmpty_eq_]; done), by repeat (first | (with_reducible first | exact HI0.out | apply IsS107.alloc | apply IsS107.drewN | apply IsS107.drew | apply IsS107.set_1) | exact HI0.out), by repeat (first | (with_reducible first | exact HB.out | apply below_alloc | apply pw_below_drewN | apply below_drew1 | refine below_set ?_ (IsS107.ge HI0.out)) | exact HB.out), by repeat (first | (with_reducible first | exact HK.out | apply KeepBut.set_ | apply keep_drewN | apply keep_drew | apply keep_alloc) | exact HK.out)⟩
def kauditmake_Src_Pair.j0 : Nat → List Int → Int → ByteArray → Int → Int → ByteArray → Option (ByteArray × Int × Int × ByteArray × Int)
  | 0, _, _, _, _, _, _ => none
  | k + 1, x1000, x1001, x275000, x275001, x275002, x275003 => (kauditmake_Src_N.f x1000 x1001 24).bind fun bt284 => (if bt284.1 = 23 then ((kauditmake_Src_Word.f x1000 bt284.2 (([(⟨#[]⟩ : ByteArray), (⟨#[65]⟩ : ByteArray), (⟨#[49, 97]⟩ : ByteArray), (⟨#[97, 45, 98]⟩ : ByteArray), (⟨#[97, 98, 99, 100, 101, 102, 103, 104, 105, 106, 107, 108, 109, 110, 111, 112]⟩ : ByteArray), (⟨#[97, 98, 99, 100, 101, 102, 103, 104, 105, 106, 107, 108, 109, 110, 111, 112, 113]⟩ : ByteArray)] : List ByteArray))).bind fun bt289 => ((kauditmake_Src_N.f x1000 bt289.2 2).bind fun bt291 => (some (bt289.1, x275001, bt291.1, x275003, bt291.2)))) else (some (x275000, x275001, x275002, x275003, bt284.2)))
def kauditmake_Src_Pair.f (k : Nat) (s0_0 : List Int) (s0_1 : Int) : Option (ByteArray × Int × Int × ByteArray × Int) := (kauditmake_Src_Word.f s0_0 s0_1 (([(⟨#[97]⟩ : ByteArray), (⟨#[98]⟩ : ByteArray), (⟨#[117, 105, 100]⟩ : ByteArray), (⟨#[107, 101, 121]⟩ : ByteArray), (⟨#[97, 48]⟩ : ByteArray), (⟨#[120, 95, 49]⟩ : ByteArray), (⟨#[112, 105, 100]⟩ : ByteArray), (⟨#[112, 97, 116, 104]⟩ : ByteArray)] : List ByteArray))).bind fun bt270 => ((kauditmake_Src_Range.f s0_0 bt270.2 1 3).bind fun bt272 => (if bt272.1 = 1 then ((kauditmake_Src_N.f s0_0 bt272.2 1000).bind fun bt275 => ((kauditmake_Src_Pick.f s0_0 bt275.2 (([0, 1, (-1), 42, 9223372036854775807, (-9223372036854775808), bt275.1] : List Int))).bind fun bt280 => (kauditmake_Src_Pair.j0 k s0_0 bt280.2 bt270.1 bt272.1 bt280.1 (⟨#[]⟩ : ByteArray)))) else (if bt272.1 = 2 then ((kauditmake_Src_Text.f k s0_0 bt272.2).bind fun bt282 => (kauditmake_Src_Pair.j0 k s0_0 bt282.2 bt270.1 bt272.1 0 bt282.1)) else (kauditmake_Src_Pair.j0 k s0_0 bt272.2 bt270.1 bt272.1 0 (⟨#[]⟩ : ByteArray)))))
theorem kauditmake_Src_Pair.mono_l : ∀ k, (∀ y0 y1 y2 y3 y4 y5, LeO (kauditmake_Src_Pair.j0 k y0 y1 y2 y3 y4 y5) (kauditmake_Src_Pair.j0 (k + 1) y0 y1 y2 y3 y4 y5))
  | 0 => fun _ _ _ _ _ _ r h => by simp [kauditmake_Src_Pair.j0] at h
  | k + 1 => by
    have ih0 := kauditmake_Src_Pair.mono_l k
    · intro y0 y1 y2 y3 y4 y5
      unfold kauditmake_Src_Pair.j0
      repeat' first
      | (with_reducible exact ih0 _ _ _ _ _ _)
      | (with_reducible exact kauditmake_Src_Text.mono _ _ _)
      | (with_reducible exact LeO.refl _)
      | (with_reducible exact LeO.none _)
      | (with_reducible refine LeO.ite ?_ ?_)
      | (with_reducible refine LeO.bind ?_ (fun _ => ?_))
      | exact ih0 _ _ _ _ _ _
      | exact kauditmake_Src_Text.mono _ _ _
      | exact LeO.none _
      | refine LeO.ite ?_ ?_
      | refine LeO.bind ?_ (fun _ => ?_)
theorem kauditmake_Src_Pair.mono : ∀ a0 a1 k, LeO (kauditmake_Src_Pair.f k a0 a1) (kauditmake_Src_Pair.f (k + 1) a0 a1) := by
  intro a0 a1 k
  have ih0 := kauditmake_Src_Pair.mono_l k
  unfold kauditmake_Src_Pair.f
  repeat' first
      | (with_reducible exact ih0 _ _ _ _ _ _)
      | (with_reducible exact kauditmake_Src_Text.mono _ _ _)
      | (with_reducible exact LeO.refl _)
      | (with_reducible exact LeO.none _)
      | (with_reducible refine LeO.ite ?_ ?_)
      | (with_reducible refine LeO.bind ?_ (fun _ => ?_))
      | exact ih0 _ _ _ _ _ _
      | exact kauditmake_Src_Text.mono _ _ _
      | exact LeO.none _
      | refine LeO.ite ?_ ?_
      | refine LeO.bind ?_ (fun _ => ?_)
set_option maxHeartbeats 8000000 in
set_option maxRecDepth 100000 in
theorem kauditmake_Src_Pair.calls (k : Nat) (g : Nat) (s0_0 : List Int) (s0_1 : Int) (r1 : ByteArray) (r2 : Int) (r3 : Int) (r4 : ByteArray) (r5 : Int) (w0 w : World) (hI : IsS107 w0 w g s0_0 s0_1) (hB : Below w0.heap.size w0 w) (h : kauditmake_Src_Pair.f k s0_0 s0_1 = some (r1, r2, r3, r4, r5)) :
    Calls Tryd.prog 35 #[.pointer (some ⟨g, 0, none⟩)] w fun e w' => e = .returned (.agg #[.string r1, .int .i64 r2, .int .i64 r3, .string r4]) ∧ IsS107 w0 w' g s0_0 r5 ∧ Below w0.heap.size w0 w' ∧ KeepBut w w' g none := by
  have hu34 := Tryd.underlying34
  have HI0 := Aside0.mk hI
  have HK := Aside0.mk (KeepBut.refl w g none)
  have HL := Aside0.mk hB.size
  clear hI
  have HW0 := Aside0.mk hB.size
  have HB := Aside0.mk hB
  clear hB
  have H : ((kauditmake_Src_Word.f s0_0 s0_1 (([(⟨#[97]⟩ : ByteArray), (⟨#[98]⟩ : ByteArray), (⟨#[117, 105, 100]⟩ : ByteArray), (⟨#[107, 101, 121]⟩ : ByteArray), (⟨#[97, 48]⟩ : ByteArray), (⟨#[120, 95, 49]⟩ : ByteArray), (⟨#[112, 105, 100]⟩ : ByteArray), (⟨#[112, 97, 116, 104]⟩ : ByteArray)] : List ByteArray))).bind fun bt270 => ((kauditmake_Src_Range.f s0_0 bt270.2 1 3).bind fun bt272 => (if bt272.1 = 1 then ((kauditmake_Src_N.f s0_0 bt272.2 1000).bind fun bt275 => ((kauditmake_Src_Pick.f s0_0 bt275.2 (([0, 1, (-1), 42, 9223372036854775807, (-9223372036854775808), bt275.1] : List Int))).bind fun bt280 => (kauditmake_Src_Pair.j0 k s0_0 bt280.2 bt270.1 bt272.1 bt280.1 (⟨#[]⟩ : ByteArray)))) else (if bt272.1 = 2 then ((kauditmake_Src_Text.f k s0_0 bt272.2).bind fun bt282 => (kauditmake_Src_Pair.j0 k s0_0 bt282.2 bt270.1 bt272.1 0 bt282.1)) else (kauditmake_Src_Pair.j0 k s0_0 bt272.2 bt270.1 bt272.1 0 (⟨#[]⟩ : ByteArray)))))) = some (r1, r2, r3, r4, r5) := h
  clear h
  obtain ⟨y267, hy267⟩ : ∃ y_ : List ByteArray, y_ = (([(⟨#[97]⟩ : ByteArray), (⟨#[98]⟩ : ByteArray), (⟨#[117, 105, 100]⟩ : ByteArray), (⟨#[107, 101, 121]⟩ : ByteArray), (⟨#[97, 48]⟩ : ByteArray), (⟨#[120, 95, 49]⟩ : ByteArray), (⟨#[112, 105, 100]⟩ : ByteArray), (⟨#[112, 97, 116, 104]⟩ : ByteArray)] : List ByteArray)) := ⟨_, rfl⟩
  replace H : ((kauditmake_Src_Word.f s0_0 s0_1 y267).bind fun bt270 => ((kauditmake_Src_Range.f s0_0 bt270.2 1 3).bind fun bt272 => (if bt272.1 = 1 then ((kauditmake_Src_N.f s0_0 bt272.2 1000).bind fun bt275 => ((kauditmake_Src_Pick.f s0_0 bt275.2 (([0, 1, (-1), 42, 9223372036854775807, (-9223372036854775808), bt275.1] : List Int))).bind fun bt280 => (kauditmake_Src_Pair.j0 k s0_0 bt280.2 bt270.1 bt272.1 bt280.1 (⟨#[]⟩ : ByteArray)))) else (if bt272.1 = 2 then ((kauditmake_Src_Text.f k s0_0 bt272.2).bind fun bt282 => (kauditmake_Src_Pair.j0 k s0_0 bt282.2 bt270.1 bt272.1 0 bt282.1)) else (kauditmake_Src_Pair.j0 k s0_0 bt272.2 bt270.1 bt272.1 0 (⟨#[]⟩ : ByteArray)))))) = some (r1, r2, r3, r4, r5) := by first | (rw [hy267]; with_reducible exact H) | (have H2_ := (Option.bind_some _ _).symm.trans H; rw [hy267]; with_reducible exact H2_) | (have H2_ := (Option.bind_some _ _).symm.trans H; with_reducible exact H2_) | with_reducible exact H | (rw [hy267]; exact H) | exact H
  have Ny267 := Aside0.mk hy267
  clear hy267
  replace H := Option.bind_eq_some_iff.mp H
  obtain ⟨⟨t270, t271⟩, A20, H⟩ := H
  replace H : ((kauditmake_Src_Range.f s0_0 t271 1 3).bind fun bt272 => (if bt272.1 = 1 then ((kauditmake_Src_N.f s0_0 bt272.2 1000).bind fun bt275 => ((kauditmake_Src_Pick.f s0_0 bt275.2 (([0, 1, (-1), 42, 9223372036854775807, (-9223372036854775808), bt275.1] : List Int))).bind fun bt280 => (kauditmake_Src_Pair.j0 k s0_0 bt280.2 t270 bt272.1 bt280.1 (⟨#[]⟩ : ByteArray)))) else (if bt272.1 = 2 then ((kauditmake_Src_Text.f k s0_0 bt272.2).bind fun bt282 => (kauditmake_Src_Pair.j0 k s0_0 bt282.2 t270 bt272.1 0 bt282.1)) else (kauditmake_Src_Pair.j0 k s0_0 bt272.2 t270 bt272.1 0 (⟨#[]⟩ : ByteArray))))) = some (r1, r2, r3, r4, r5) := H
  have A2 := Aside0.mk A20
  clear A20
  replace H := Option.bind_eq_some_iff.mp H
  obtain ⟨⟨t272, t273⟩, A30, H⟩ := H
  replace H : (if t272 = 1 then ((kauditmake_Src_N.f s0_0 t273 1000).bind fun bt275 => ((kauditmake_Src_Pick.f s0_0 bt275.2 (([0, 1, (-1), 42, 9223372036854775807, (-9223372036854775808), bt275.1] : List Int))).bind fun bt280 => (kauditmake_Src_Pair.j0 k s0_0 bt280.2 t270 t272 bt280.1 (⟨#[]⟩ : ByteArray)))) else (if t272 = 2 then ((kauditmake_Src_Text.f k s0_0 t273).bind fun bt282 => (kauditmake_Src_Pair.j0 k s0_0 bt282.2 t270 t272 0 bt282.1)) else (kauditmake_Src_Pair.j0 k s0_0 t273 t270 t272 0 (⟨#[]⟩ : ByteArray)))) = some (r1, r2, r3, r4, r5) := H
  have A3 := Aside0.mk A30
  clear A30
  have HC4 := Aside0.mk H
  clear H
  go_enter Tryd.func35, Tryd.ntmps35
  go_upto_block 0 with (first | ((with_reducible refine gate_dst (N := 2) rfl ?_); refine box_event ?hg (N := 2) ?hd (cs := #[.string (⟨#[]⟩ : ByteArray), .int .i64 0, .int .i64 0, .string (⟨#[]⟩ : ByteArray)]) (t := 34) ?hr ?_; (case hd => rfl); (case hg => rfl); (case hr => first | (go_simp; done) | (go_simp; rfl)); intro gb266 hg w5 hbox hb; have n0_ := Aside0.mk (IsS107.below (by repeat (first | (with_reducible first | exact HI0.out | apply IsS107.alloc | apply IsS107.drewN | apply IsS107.drew | apply IsS107.set_1) | exact HI0.out)) hb); have n1_ := Aside0.mk (KeepBut.trans (by repeat (first | (with_reducible first | exact HK.out | apply KeepBut.set_ | apply keep_drewN | apply keep_drew | apply keep_alloc) | exact HK.out)) (KeepBut.of_below hb g none) (.inl rfl)); have n2_ := Aside0.mk (below_step (by repeat (first | (with_reducible first | exact HB.out | apply below_alloc | apply pw_below_drewN | apply below_drew1 | refine below_set ?_ (IsS107.ge HI0.out)) | exact HB.out)) hb); have n3_ := Aside0.mk (hbox); have n4_ := Aside0.mk ((by rw [hg]; exact (keep_size (w := w) (g := g) (row := none) (by repeat (first | (with_reducible first | exact HK.out | apply KeepBut.set_ | apply keep_drewN | apply keep_drew | apply keep_alloc) | exact HK.out))) : w.heap.size ≤ gb266)); have n5_ := Aside0.mk ((Nat.le_trans HW0.out (by rw [hg]; exact (keep_size (w := w) (g := g) (row := none) (by repeat (first | (with_reducible first | exact HK.out | apply KeepBut.set_ | apply keep_drewN | apply keep_drew | apply keep_alloc) | exact HK.out))) : w.heap.size ≤ gb266) : w0.heap.size ≤ gb266)); have n6_ := Aside0.mk ((by rw [hg]; exact Nat.ne_of_lt (IsS107.lt (show IsS107 w0 _ g s0_0 s0_1 from by repeat (first | (with_reducible first | exact HI0.out | apply IsS107.alloc | apply IsS107.drewN | apply IsS107.drew | apply IsS107.set_1) | exact HI0.out))) : g ≠ gb266)); have n7_ := Aside0.mk ((by rw [hg]; exact Nat.ne_of_gt (IsS107.lt (show IsS107 w0 _ g s0_0 s0_1 from by repeat (first | (with_reducible first | exact HI0.out | apply IsS107.alloc | apply IsS107.drewN | apply IsS107.drew | apply IsS107.set_1) | exact HI0.out))) : gb266 ≠ g)); clear HI0; clear HK; clear HB; have HI0 := n0_; have HK := n1_; have HB := n2_; have BK266 := n3_; have GW266 := n4_; have GE266 := n5_; have NB0_266 := n6_; have NB266_0 := n7_; clear n0_ n1_ n2_ n3_ n4_ n5_ n6_ n7_; clear hb hbox hg) | ((with_reducible refine gate_dst (N := 5) rfl ?_); refine Kd.R_lit Kd.string _ 9 ?hg (N := 5) ?hd (xs := ([(⟨#[97]⟩ : ByteArray), (⟨#[98]⟩ : ByteArray), (⟨#[117, 105, 100]⟩ : ByteArray), (⟨#[107, 101, 121]⟩ : ByteArray), (⟨#[97, 48]⟩ : ByteArray), (⟨#[120, 95, 49]⟩ : ByteArray), (⟨#[112, 105, 100]⟩ : ByteArray), (⟨#[112, 97, 116, 104]⟩ : ByteArray)] : List ByteArray)) (inner := [.string (⟨#[97]⟩ : ByteArray), .string (⟨#[98]⟩ : ByteArray), .string (⟨#[117, 105, 100]⟩ : ByteArray), .string (⟨#[107, 101, 121]⟩ : ByteArray), .string (⟨#[97, 48]⟩ : ByteArray), .string (⟨#[120, 95, 49]⟩ : ByteArray), .string (⟨#[112, 105, 100]⟩ : ByteArray), .string (⟨#[112, 97, 116, 104]⟩ : ByteArray)]) (ok := fun _ => True) (okp := fun _ => True) ?hr ?hp (fun _ hk => hk) trivial (Below.refl _ _) (Nat.le_refl _) (by simp) ?_; (case hd => rfl); (case hg => rfl); (case hr => first | (go_simp; done) | (go_simp; rfl)); (case hp => exact (Reps.one (show Kd.M Kd.string _ _ _ (⟨#[97]⟩ : ByteArray) [.string (⟨#[97]⟩ : ByteArray)] from rfl) (Reps.one (show Kd.M Kd.string _ _ _ (⟨#[98]⟩ : ByteArray) [.string (⟨#[98]⟩ : ByteArray)] from rfl) (Reps.one (show Kd.M Kd.string _ _ _ (⟨#[117, 105, 100]⟩ : ByteArray) [.string (⟨#[117, 105, 100]⟩ : ByteArray)] from rfl) (Reps.one (show Kd.M Kd.string _ _ _ (⟨#[107, 101, 121]⟩ : ByteArray) [.string (⟨#[107, 101, 121]⟩ : ByteArray)] from rfl) (Reps.one (show Kd.M Kd.string _ _ _ (⟨#[97, 48]⟩ : ByteArray) [.string (⟨#[97, 48]⟩ : ByteArray)] from rfl) (Reps.one (show Kd.M Kd.string _ _ _ (⟨#[120, 95, 49]⟩ : ByteArray) [.string (⟨#[120, 95, 49]⟩ : ByteArray)] from rfl) (Reps.one (show Kd.M Kd.string _ _ _ (⟨#[112, 105, 100]⟩ : ByteArray) [.string (⟨#[112, 105, 100]⟩ : ByteArray)] from rfl) (Reps.one (show Kd.M Kd.string _ _ _ (⟨#[112, 97, 116, 104]⟩ : ByteArray) [.string (⟨#[112, 97, 116, 104]⟩ : ByteArray)] from rfl) (Reps.none _ _)))))))))); intro v268 w6 ho7 hb hg_ hnew_; clear hg_ hnew_; (first | rw [← Ny267.out] at ho7 | (simp only [Int.reduceToNat] at ho7; rw [← Ny267.out] at ho7)); have n0_ := Aside0.mk (Kd.R_lower ho7 (keep_size (w := w) (g := g) (row := none) (by repeat (first | (with_reducible first | exact HK.out | apply KeepBut.set_ | apply keep_drewN | apply keep_drew | apply keep_alloc | refine keep_far ?_ GW266.out _) | exact HK.out)))); have n1_ := Aside0.mk (IsS107.below (by repeat (first | (with_reducible first | exact HI0.out | apply IsS107.alloc | apply IsS107.drewN | apply IsS107.drew | apply IsS107.set_1 | refine IsS107.far ?_ NB0_266.out _) | exact HI0.out)) hb); have n2_ := Aside0.mk (blk_below (g := gb266) (o := .cells #[.string (⟨#[]⟩ : ByteArray), .int .i64 0, .int .i64 0, .string (⟨#[]⟩ : ByteArray)] 34 (0, 0)) (by (with_reducible repeat (first | refine blk_drewN ?_ _ | refine blk_drew ?_ | refine blk_alloc ?_ _)); exact BK266.out) hb); have n3_ := Aside0.mk (KeepBut.trans (by repeat (first | (with_reducible first | exact HK.out | apply KeepBut.set_ | apply keep_drewN | apply keep_drew | apply keep_alloc | refine keep_far ?_ GW266.out _) | exact HK.out)) (KeepBut.of_below hb g none) (.inl rfl)); have n4_ := Aside0.mk (below_step (by repeat (first | (with_reducible first | exact HB.out | apply below_alloc | apply pw_below_drewN | apply below_drew1 | refine below_set ?_ (IsS107.ge HI0.out) | refine below_set ?_ GE266.out) | exact HB.out)) hb); clear HI0; clear BK266; clear HK; clear HB; have HO269 := n0_; have HI0 := n1_; have BK266 := n2_; have HK := n3_; have HB := n4_; clear n0_ n1_ n2_ n3_ n4_; clear hb ho7; obtain ⟨Ao8, co8, eo8⟩ := Kd.R_slice HO269.out; subst eo8) | ((with_reducible refine gate_callee (f := 76) rfl ?_); refine goesL_ (some 6) rfl rfl Tryd.func76 (by kernel_rfl) rfl #[.pointer (some ⟨g, 0, none⟩), .slice Ao8 y267.length co8] rfl (by (try simp only [List.map_toArray, List.map_cons, List.map_nil]); first | done | rfl | (simp only [List.length_drop, List.length_take]; rfl)) ?_; (with_reducible refine (kauditmake_Src_Word.calls g s0_0 s0_1 _ _ y267 t270 t271 w0 _ ?side1 ?side2 ?side3 ?side4 ?side5 A2.out).mono ?_); (case side1 => repeat (first | (with_reducible first | exact HI0.out | apply IsS107.alloc | apply IsS107.drewN | apply IsS107.drew | apply IsS107.set_1 | refine IsS107.far ?_ NB0_266.out _) | exact HI0.out)); (case side2 => repeat (first | (with_reducible first | exact HB.out | apply below_alloc | apply pw_below_drewN | apply below_drew1 | refine below_set ?_ (IsS107.ge HI0.out) | refine below_set ?_ GE266.out) | exact HB.out)); (case side3 => repeat (first | exact (Kd.R_reads' HO269.out).2.2 | (with_reducible refine Kd.C_alloc ?_ _) | (with_reducible refine Kd.C_drewN ?_ _) | (with_reducible refine Kd.C_drew ?_))); (case side4 => exact (Kd.R_reads' HO269.out).2.1); (case side5 => exact far_slice (IsS107.own_ne HI0.out HO269.out (by decide))); rintro e w9 ⟨rfl, hi, hb, hk⟩; refine ⟨_, rfl, ?_⟩; have n0_ := Aside0.mk (KeepBut.blk hk (g' := gb266) (o := .cells #[.string (⟨#[]⟩ : ByteArray), .int .i64 0, .int .i64 0, .string (⟨#[]⟩ : ByteArray)] 34 (0, 0)) (by (with_reducible repeat (first | refine blk_drewN ?_ _ | refine blk_drew ?_ | refine blk_alloc ?_ _)); exact BK266.out) NB266_0.out (by simp)); have n1_ := Aside0.mk (Kd.R_mono (Kd.R_keep (IsS107.apart (show IsS107 w0 _ g s0_0 s0_1 from by repeat (first | (with_reducible first | exact HI0.out | apply IsS107.alloc | apply IsS107.drewN | apply IsS107.drew | apply IsS107.set_1 | refine IsS107.far ?_ NB0_266.out _) | exact HI0.out)) (by (with_reducible repeat (first | apply Kd.R_alloc | apply Kd.R_drewN | apply Kd.R_drew)); exact HO269.out) (by decide)) hk (fun _ h => h.2)) (fun _ h => h.1)); have n2_ := Aside0.mk (KeepBut.trans (by repeat (first | (with_reducible first | exact HK.out | apply KeepBut.set_ | apply keep_drewN | apply keep_drew | apply keep_alloc | refine keep_far ?_ GW266.out _) | exact HK.out)) hk (.inl rfl)); have n3_ := Aside0.mk (hb); have n4_ := Aside0.mk (hi); clear BK266; clear HO269; clear HK; clear HB; clear HI0; have BK266 := n0_; have HO269 := n1_; have HK := n2_; have HB := n3_; have HI0 := n4_; clear n0_ n1_ n2_ n3_ n4_; (try clear hb); (try clear hb2); (try clear hk); (try clear hi)) | ((with_reducible refine gate_callee (f := 75) rfl ?_); refine goesL_ (some 8) rfl rfl Tryd.func75 (by kernel_rfl) rfl #[.pointer (some ⟨g, 0, none⟩), .int .i64 1, .int .i64 3] rfl (by (try simp only [List.map_toArray, List.map_cons, List.map_nil]); first | done | rfl | (simp only [List.length_drop, List.length_take]; rfl)) ?_; (with_reducible refine (kauditmake_Src_Range.calls g s0_0 t271 1 3 t272 t273 w0 _ ?side1 ?side2 A3.out).mono ?_); (case side1 => repeat (first | (with_reducible first | exact HI0.out | apply IsS107.alloc | apply IsS107.drewN | apply IsS107.drew | apply IsS107.set_1 | refine IsS107.far ?_ NB0_266.out _) | exact HI0.out)); (case side2 => repeat (first | (with_reducible first | exact HB.out | apply below_alloc | apply pw_below_drewN | apply below_drew1 | refine below_set ?_ (IsS107.ge HI0.out) | refine below_set ?_ GE266.out) | exact HB.out)); rintro e w10 ⟨rfl, hi, hb, hk⟩; refine ⟨_, rfl, ?_⟩; have n0_ := Aside0.mk (KeepBut.blk hk (g' := gb266) (o := .cells #[.string (⟨#[]⟩ : ByteArray), .int .i64 0, .int .i64 0, .string (⟨#[]⟩ : ByteArray)] 34 (0, 0)) (by (with_reducible repeat (first | refine blk_drewN ?_ _ | refine blk_drew ?_ | refine blk_alloc ?_ _)); exact BK266.out) NB266_0.out (by simp)); have n1_ := Aside0.mk (Kd.R_mono (Kd.R_keep (IsS107.apart (show IsS107 w0 _ g s0_0 t271 from by repeat (first | (with_reducible first | exact HI0.out | apply IsS107.alloc | apply IsS107.drewN | apply IsS107.drew | apply IsS107.set_1 | refine IsS107.far ?_ NB0_266.out _) | exact HI0.out)) (by (with_reducible repeat (first | apply Kd.R_alloc | apply Kd.R_drewN | apply Kd.R_drew)); exact HO269.out) (by decide)) hk (fun _ h => h.2)) (fun _ h => h.1)); have n2_ := Aside0.mk (KeepBut.trans (by repeat (first | (with_reducible first | exact HK.out | apply KeepBut.set_ | apply keep_drewN | apply keep_drew | apply keep_alloc | refine keep_far ?_ GW266.out _) | exact HK.out)) hk (.inl rfl)); have n3_ := Aside0.mk (hb); have n4_ := Aside0.mk (hi); clear BK266; clear HO269; clear HK; clear HB; clear HI0; have BK266 := n0_; have HO269 := n1_; have HK := n2_; have HB := n3_; have HI0 := n4_; clear n0_ n1_ n2_ n3_ n4_; (try clear hb); (try clear hb2); (try clear hk); (try clear hi)) | ((with_reducible refine gate_dst (N := 3) rfl ?_); refine box_event ?hg (N := 3) ?hd (cs := #[.string (⟨#[]⟩ : ByteArray), .int .i64 0, .int .i64 0, .string (⟨#[]⟩ : ByteArray)]) (t := 34) ?hr ?_; (case hd => rfl); (case hg => rfl); (case hr => first | (go_simp; done) | (go_simp; rfl)); intro gb274 hg w11 hbox hb; have n0_ := Aside0.mk (Kd.R_below (by (with_reducible repeat (first | apply Kd.R_alloc | apply Kd.R_drewN | apply Kd.R_drew)); exact HO269.out) hb); have n1_ := Aside0.mk (IsS107.below (by repeat (first | (with_reducible first | exact HI0.out | apply IsS107.alloc | apply IsS107.drewN | apply IsS107.drew | apply IsS107.set_1 | refine IsS107.far ?_ NB0_266.out _) | exact HI0.out)) hb); have n2_ := Aside0.mk (blk_below (g := gb266) (o := .cells #[.string (⟨#[]⟩ : ByteArray), .int .i64 0, .int .i64 0, .string (⟨#[]⟩ : ByteArray)] 34 (0, 0)) (by (with_reducible repeat (first | refine blk_drewN ?_ _ | refine blk_drew ?_ | refine blk_alloc ?_ _)); exact BK266.out) hb); have n3_ := Aside0.mk (KeepBut.trans (by repeat (first | (with_reducible first | exact HK.out | apply KeepBut.set_ | apply keep_drewN | apply keep_drew | apply keep_alloc | refine keep_far ?_ GW266.out _) | exact HK.out)) (KeepBut.of_below hb g none) (.inl rfl)); have n4_ := Aside0.mk (below_step (by repeat (first | (with_reducible first | exact HB.out | apply below_alloc | apply pw_below_drewN | apply below_drew1 | refine below_set ?_ (IsS107.ge HI0.out) | refine below_set ?_ GE266.out) | exact HB.out)) hb); have n5_ := Aside0.mk (hbox); have n6_ := Aside0.mk ((by rw [hg]; exact (keep_size (w := w) (g := g) (row := none) (by repeat (first | (with_reducible first | exact HK.out | apply KeepBut.set_ | apply keep_drewN | apply keep_drew | apply keep_alloc | refine keep_far ?_ GW266.out _) | exact HK.out))) : w.heap.size ≤ gb274)); have n7_ := Aside0.mk ((Nat.le_trans HW0.out (by rw [hg]; exact (keep_size (w := w) (g := g) (row := none) (by repeat (first | (with_reducible first | exact HK.out | apply KeepBut.set_ | apply keep_drewN | apply keep_drew | apply keep_alloc | refine keep_far ?_ GW266.out _) | exact HK.out))) : w.heap.size ≤ gb274) : w0.heap.size ≤ gb274)); have n8_ := Aside0.mk ((by rw [hg]; exact Nat.ne_of_lt (blk_lt (g := gb266) (o := .cells #[.string (⟨#[]⟩ : ByteArray), .int .i64 0, .int .i64 0, .string (⟨#[]⟩ : ByteArray)] 34 (0, 0)) (by (with_reducible repeat (first | refine blk_drewN ?_ _ | refine blk_drew ?_ | refine blk_alloc ?_ _)); exact BK266.out)) : gb266 ≠ gb274)); have n9_ := Aside0.mk ((by rw [hg]; exact Nat.ne_of_gt (blk_lt (g := gb266) (o := .cells #[.string (⟨#[]⟩ : ByteArray), .int .i64 0, .int .i64 0, .string (⟨#[]⟩ : ByteArray)] 34 (0, 0)) (by (with_reducible repeat (first | refine blk_drewN ?_ _ | refine blk_drew ?_ | refine blk_alloc ?_ _)); exact BK266.out)) : gb274 ≠ gb266)); have n10_ := Aside0.mk ((by rw [hg]; exact Nat.ne_of_lt (IsS107.lt (show IsS107 w0 _ g s0_0 t273 from by repeat (first | (with_reducible first | exact HI0.out | apply IsS107.alloc | apply IsS107.drewN | apply IsS107.drew | apply IsS107.set_1 | refine IsS107.far ?_ NB0_266.out _) | exact HI0.out))) : g ≠ gb274)); have n11_ := Aside0.mk ((by rw [hg]; exact Nat.ne_of_gt (IsS107.lt (show IsS107 w0 _ g s0_0 t273 from by repeat (first | (with_reducible first | exact HI0.out | apply IsS107.alloc | apply IsS107.drewN | apply IsS107.drew | apply IsS107.set_1 | refine IsS107.far ?_ NB0_266.out _) | exact HI0.out))) : gb274 ≠ g)); clear HO269; clear HI0; clear BK266; clear HK; clear HB; have HO269 := n0_; have HI0 := n1_; have BK266 := n2_; have HK := n3_; have HB := n4_; have BK274 := n5_; have GW274 := n6_; have GE274 := n7_; have NB266_274 := n8_; have NB274_266 := n9_; have NB0_274 := n10_; have NB274_0 := n11_; clear n0_ n1_ n2_ n3_ n4_ n5_ n6_ n7_ n8_ n9_ n10_ n11_; clear hb hbox hg; have hnb12 := NB274_266.out; have hnc12 := NB266_274.out; have hnb13 := NB274_0.out; have hnc13 := NB0_274.out; have hcz14_0 : w11.cell? ⟨gb274, 0, none⟩ = some (.string (⟨#[]⟩ : ByteArray)) := (blk_cell BK274.out 0).trans rfl; have hcz14_1 : w11.cell? ⟨gb274, 1, none⟩ = some (.int .i64 0) := (blk_cell BK274.out 1).trans rfl; have hcz14_2 : w11.cell? ⟨gb274, 2, none⟩ = some (.int .i64 0) := (blk_cell BK274.out 2).trans rfl; have hcz14_3 : w11.cell? ⟨gb274, 3, none⟩ = some (.string (⟨#[]⟩ : ByteArray)) := (blk_cell BK274.out 3).trans rfl; have hfz14_0 := blk_frozen BK274.out 0; have hfz14_1 := blk_frozen BK274.out 1; have hfz14_2 := blk_frozen BK274.out 2; have hfz14_3 := blk_frozen BK274.out 3))
  (try simp only [Act.put, List.setIfInBounds_toArray, List.set_cons_zero, List.set_cons_succ])
  go_cut [] (fun wc => ∃ (kq : Nat) (x1001_3 : Int) (x275002_3 : Int) (x275003_3 : ByteArray), Aside0 (kauditmake_Src_Pair.j0 kq s0_0 x1001_3 t270 t272 x275002_3 x275003_3 = some (r1, r2, r3, r4, r5)) ∧ Aside0 (kq ≤ k) ∧ Aside0 (wc.heap[gb266]? = some (.cells #[.string (⟨#[]⟩ : ByteArray), .int .i64 0, .int .i64 0, .string (⟨#[]⟩ : ByteArray)] 34 (0, 0))) ∧ Aside0 (wc.heap[gb274]? = some (.cells #[.string t270, .int .i64 t272, .int .i64 x275002_3, .string x275003_3] 34 (0, 0))) ∧ Aside0 (IsS107 w0 wc g s0_0 x1001_3) ∧ Aside0 (KeepBut w wc g none) ∧ Aside0 (Below w0.heap.size w0 wc))
  case first =>
    have H := HC4.out
    clear HC4
    by_cases c15 : t272 = 1
    · rw [if_pos c15] at H
      have c15b0 : (t272 == 1) = true := beq_iff_eq.mpr c15
      have c15b1 : (t272 != 1) = false := bne_eq_false_iff_eq.mpr c15
      clear c15
      (first | rw [c15b0] | (simp only [i64_w, i32_w]; rw [c15b0]) | skip)
      replace H := Option.bind_eq_some_iff.mp H
      obtain ⟨⟨t275, t276⟩, A160, H⟩ := H
      replace H : ((kauditmake_Src_Pick.f s0_0 t276 (([0, 1, (-1), 42, 9223372036854775807, (-9223372036854775808), t275] : List Int))).bind fun bt280 => (kauditmake_Src_Pair.j0 k s0_0 bt280.2 t270 t272 bt280.1 (⟨#[]⟩ : ByteArray))) = some (r1, r2, r3, r4, r5) := H
      have A16 := Aside0.mk A160
      clear A160
      obtain ⟨y277, hy277⟩ : ∃ y_ : List Int, y_ = (([0, 1, (-1), 42, 9223372036854775807, (-9223372036854775808), t275] : List Int)) := ⟨_, rfl⟩
      replace H : ((kauditmake_Src_Pick.f s0_0 t276 y277).bind fun bt280 => (kauditmake_Src_Pair.j0 k s0_0 bt280.2 t270 t272 bt280.1 (⟨#[]⟩ : ByteArray))) = some (r1, r2, r3, r4, r5) := by first | (rw [hy277]; with_reducible exact H) | (have H2_ := (Option.bind_some _ _).symm.trans H; rw [hy277]; with_reducible exact H2_) | (have H2_ := (Option.bind_some _ _).symm.trans H; with_reducible exact H2_) | with_reducible exact H | (rw [hy277]; exact H) | exact H
      have Ny277 := Aside0.mk hy277
      clear hy277
      replace H := Option.bind_eq_some_iff.mp H
      obtain ⟨⟨t280, t281⟩, A170, H⟩ := H
      replace H : (kauditmake_Src_Pair.j0 k s0_0 t281 t270 t272 t280 (⟨#[]⟩ : ByteArray)) = some (r1, r2, r3, r4, r5) := H
      have A17 := Aside0.mk A170
      clear A170
      have H' := Aside0.mk H
      clear H
      go_wp2_with (first | ((with_reducible refine gate_callee (f := 34) rfl ?_); refine goesL_ (some 16) rfl rfl Tryd.func34 (by kernel_rfl) rfl #[.pointer (some ⟨g, 0, none⟩), .int .i64 1000] rfl (by (try simp only [List.map_toArray, List.map_cons, List.map_nil]); first | done | rfl | (simp only [List.length_drop, List.length_take]; rfl)) ?_; (with_reducible refine (kauditmake_Src_N.calls g s0_0 t273 1000 t275 t276 w0 _ ?side1 ?side2 A16.out).mono ?_); (case side1 => repeat (first | (with_reducible first | exact HI0.out | apply IsS107.alloc | apply IsS107.drewN | apply IsS107.drew | apply IsS107.set_1 | refine IsS107.far ?_ NB0_266.out _ | refine IsS107.far ?_ NB0_274.out _) | exact HI0.out)); (case side2 => repeat (first | (with_reducible first | exact HB.out | apply below_alloc | apply pw_below_drewN | apply below_drew1 | refine below_set ?_ (IsS107.ge HI0.out) | refine below_set ?_ GE266.out | refine below_set ?_ GE274.out) | exact HB.out)); rintro e w18 ⟨rfl, hi, hb, hk⟩; refine ⟨_, rfl, ?_⟩; have n0_ := Aside0.mk (KeepBut.blk hk (g' := gb266) (o := .cells #[.string (⟨#[]⟩ : ByteArray), .int .i64 0, .int .i64 0, .string (⟨#[]⟩ : ByteArray)] 34 (0, 0)) (by (with_reducible repeat (first | refine blk_drewN ?_ _ | refine blk_drew ?_ | refine blk_alloc ?_ _)); refine blk_far ?_ NB266_274.out _; (with_reducible repeat (first | refine blk_drewN ?_ _ | refine blk_drew ?_ | refine blk_alloc ?_ _)); refine blk_far ?_ NB266_274.out _; (with_reducible repeat (first | refine blk_drewN ?_ _ | refine blk_drew ?_ | refine blk_alloc ?_ _)); refine blk_far ?_ NB266_274.out _; (with_reducible repeat (first | refine blk_drewN ?_ _ | refine blk_drew ?_ | refine blk_alloc ?_ _)); refine blk_far ?_ NB266_274.out _; (with_reducible repeat (first | refine blk_drewN ?_ _ | refine blk_drew ?_ | refine blk_alloc ?_ _)); exact BK266.out) NB266_0.out (by simp)); have n1_ := Aside0.mk (Kd.R_mono (Kd.R_keep (IsS107.apart (show IsS107 w0 _ g s0_0 t273 from by repeat (first | (with_reducible first | exact HI0.out | apply IsS107.alloc | apply IsS107.drewN | apply IsS107.drew | apply IsS107.set_1 | refine IsS107.far ?_ NB0_266.out _ | refine IsS107.far ?_ NB0_274.out _) | exact HI0.out)) (by (with_reducible repeat (first | apply Kd.R_alloc | apply Kd.R_drewN | apply Kd.R_drew)); exact (Kd.R_mono (Kd.R_far (p := ⟨gb274, 3, none⟩) (Kd.R_far (p := ⟨gb274, 2, none⟩) (Kd.R_far (p := ⟨gb274, 1, none⟩) (Kd.R_far (p := ⟨gb274, 0, none⟩) (Kd.R_types HO269.out BK274.out (by decide)) (fun _ hk => hk.2) (.string t270)) (fun _ hk => hk.2) (.int .i64 t272)) (fun _ hk => hk.2) (.int .i64 0)) (fun _ hk => hk.2) (.string (⟨#[]⟩ : ByteArray))) (fun _ h_ => h_.1))) (by decide)) hk (fun _ h => h.2)) (fun _ h => h.1)); have n2_ := Aside0.mk (KeepBut.blk hk (g' := gb274) (o := .cells #[.string t270, .int .i64 t272, .int .i64 0, .string (⟨#[]⟩ : ByteArray)] 34 (0, 0)) (by (with_reducible repeat (first | refine blk_drewN ?_ _ | refine blk_drew ?_ | refine blk_alloc ?_ _)); refine blk_put (cs := #[.string t270, .int .i64 t272, .int .i64 0, .string (⟨#[]⟩ : ByteArray)]) ?_ 3 _ rfl; (with_reducible repeat (first | refine blk_drewN ?_ _ | refine blk_drew ?_ | refine blk_alloc ?_ _)); refine blk_put (cs := #[.string t270, .int .i64 t272, .int .i64 0, .string (⟨#[]⟩ : ByteArray)]) ?_ 2 _ rfl; (with_reducible repeat (first | refine blk_drewN ?_ _ | refine blk_drew ?_ | refine blk_alloc ?_ _)); refine blk_put (cs := #[.string t270, .int .i64 0, .int .i64 0, .string (⟨#[]⟩ : ByteArray)]) ?_ 1 _ rfl; (with_reducible repeat (first | refine blk_drewN ?_ _ | refine blk_drew ?_ | refine blk_alloc ?_ _)); refine blk_put (cs := #[.string (⟨#[]⟩ : ByteArray), .int .i64 0, .int .i64 0, .string (⟨#[]⟩ : ByteArray)]) ?_ 0 _ rfl; (with_reducible repeat (first | refine blk_drewN ?_ _ | refine blk_drew ?_ | refine blk_alloc ?_ _)); exact BK274.out) NB274_0.out (by simp)); have n3_ := Aside0.mk (KeepBut.trans (by repeat (first | (with_reducible first | exact HK.out | apply KeepBut.set_ | apply keep_drewN | apply keep_drew | apply keep_alloc | refine keep_far ?_ GW266.out _ | refine keep_far ?_ GW274.out _) | exact HK.out)) hk (.inl rfl)); have n4_ := Aside0.mk (hb); have n5_ := Aside0.mk (hi); clear BK266; clear HO269; clear BK274; clear HK; clear HB; clear HI0; have BK266 := n0_; have HO269 := n1_; have BK274 := n2_; have HK := n3_; have HB := n4_; have HI0 := n5_; clear n0_ n1_ n2_ n3_ n4_ n5_; (try clear hb); (try clear hb2); (try clear hk); (try clear hi)) | ((with_reducible refine gate_dst (N := 17) rfl ?_); refine Kd.R_lit (Kd.int .i64) _ 3 ?hg (N := 17) ?hd (xs := ([0, 1, (-1), 42, 9223372036854775807, (-9223372036854775808), t275] : List Int)) (inner := [.int .i64 0, .int .i64 1, .int .i64 (-1), .int .i64 42, .int .i64 9223372036854775807, .int .i64 (-9223372036854775808), .int .i64 t275]) (ok := fun _ => True) (okp := fun _ => True) ?hr ?hp (fun _ hk => hk) trivial (Below.refl _ _) (Nat.le_refl _) (by simp) ?_; (case hd => rfl); (case hg => rfl); (case hr => first | (go_simp; done) | (go_simp; rfl)); (case hp => exact (Reps.one (show Kd.M (Kd.int .i64) _ _ _ 0 [.int .i64 0] from rfl) (Reps.one (show Kd.M (Kd.int .i64) _ _ _ 1 [.int .i64 1] from rfl) (Reps.one (show Kd.M (Kd.int .i64) _ _ _ (-1) [.int .i64 (-1)] from rfl) (Reps.one (show Kd.M (Kd.int .i64) _ _ _ 42 [.int .i64 42] from rfl) (Reps.one (show Kd.M (Kd.int .i64) _ _ _ 9223372036854775807 [.int .i64 9223372036854775807] from rfl) (Reps.one (show Kd.M (Kd.int .i64) _ _ _ (-9223372036854775808) [.int .i64 (-9223372036854775808)] from rfl) (Reps.one (show Kd.M (Kd.int .i64) _ _ _ t275 [.int .i64 t275] from rfl) (Reps.none _ _))))))))); intro v278 w19 ho20 hb hg_ hnew_; clear hg_ hnew_; (first | rw [← Ny277.out] at ho20 | (simp only [Int.reduceToNat] at ho20; rw [← Ny277.out] at ho20)); have n0_ := Aside0.mk (Kd.R_below (by (with_reducible repeat (first | apply Kd.R_alloc | apply Kd.R_drewN | apply Kd.R_drew)); exact HO269.out) hb); have n1_ := Aside0.mk (Kd.R_lower ho20 (keep_size (w := w) (g := g) (row := none) (by repeat (first | (with_reducible first | exact HK.out | apply KeepBut.set_ | apply keep_drewN | apply keep_drew | apply keep_alloc | refine keep_far ?_ GW266.out _ | refine keep_far ?_ GW274.out _) | exact HK.out)))); have n2_ := Aside0.mk (IsS107.below (by repeat (first | (with_reducible first | exact HI0.out | apply IsS107.alloc | apply IsS107.drewN | apply IsS107.drew | apply IsS107.set_1 | refine IsS107.far ?_ NB0_266.out _ | refine IsS107.far ?_ NB0_274.out _) | exact HI0.out)) hb); have n3_ := Aside0.mk (blk_below (g := gb266) (o := .cells #[.string (⟨#[]⟩ : ByteArray), .int .i64 0, .int .i64 0, .string (⟨#[]⟩ : ByteArray)] 34 (0, 0)) (by (with_reducible repeat (first | refine blk_drewN ?_ _ | refine blk_drew ?_ | refine blk_alloc ?_ _)); exact BK266.out) hb); have n4_ := Aside0.mk (blk_below (g := gb274) (o := .cells #[.string t270, .int .i64 t272, .int .i64 0, .string (⟨#[]⟩ : ByteArray)] 34 (0, 0)) (by (with_reducible repeat (first | refine blk_drewN ?_ _ | refine blk_drew ?_ | refine blk_alloc ?_ _)); exact BK274.out) hb); have n5_ := Aside0.mk (KeepBut.trans (by repeat (first | (with_reducible first | exact HK.out | apply KeepBut.set_ | apply keep_drewN | apply keep_drew | apply keep_alloc | refine keep_far ?_ GW266.out _ | refine keep_far ?_ GW274.out _) | exact HK.out)) (KeepBut.of_below hb g none) (.inl rfl)); have n6_ := Aside0.mk (below_step (by repeat (first | (with_reducible first | exact HB.out | apply below_alloc | apply pw_below_drewN | apply below_drew1 | refine below_set ?_ (IsS107.ge HI0.out) | refine below_set ?_ GE266.out | refine below_set ?_ GE274.out) | exact HB.out)) hb); clear HO269; clear HI0; clear BK266; clear BK274; clear HK; clear HB; have HO269 := n0_; have HO279 := n1_; have HI0 := n2_; have BK266 := n3_; have BK274 := n4_; have HK := n5_; have HB := n6_; clear n0_ n1_ n2_ n3_ n4_ n5_ n6_; clear hb ho20; obtain ⟨Ao21, co21, eo21⟩ := Kd.R_slice HO279.out; subst eo21) | ((with_reducible refine gate_callee (f := 74) rfl ?_); refine goesL_ (some 18) rfl rfl Tryd.func74 (by kernel_rfl) rfl #[.pointer (some ⟨g, 0, none⟩), .slice Ao21 y277.length co21] rfl (by (try simp only [List.map_toArray, List.map_cons, List.map_nil]); first | done | rfl | (simp only [List.length_drop, List.length_take]; rfl)) ?_; (with_reducible refine (kauditmake_Src_Pick.calls g s0_0 t276 _ _ y277 t280 t281 w0 _ ?side1 ?side2 ?side3 ?side4 ?side5 A17.out).mono ?_); (case side1 => repeat (first | (with_reducible first | exact HI0.out | apply IsS107.alloc | apply IsS107.drewN | apply IsS107.drew | apply IsS107.set_1 | refine IsS107.far ?_ NB0_266.out _ | refine IsS107.far ?_ NB0_274.out _) | exact HI0.out)); (case side2 => repeat (first | (with_reducible first | exact HB.out | apply below_alloc | apply pw_below_drewN | apply below_drew1 | refine below_set ?_ (IsS107.ge HI0.out) | refine below_set ?_ GE266.out | refine below_set ?_ GE274.out) | exact HB.out)); (case side3 => repeat (first | exact (Kd.R_reads' HO279.out).2.2 | (with_reducible refine Kd.C_alloc ?_ _) | (with_reducible refine Kd.C_drewN ?_ _) | (with_reducible refine Kd.C_drew ?_))); (case side4 => exact (Kd.R_reads' HO279.out).2.1); (case side5 => exact far_slice (IsS107.own_ne HI0.out HO279.out (by decide))); rintro e w22 ⟨rfl, hi, hb, hk⟩; refine ⟨_, rfl, ?_⟩; have n0_ := Aside0.mk (KeepBut.blk hk (g' := gb266) (o := .cells #[.string (⟨#[]⟩ : ByteArray), .int .i64 0, .int .i64 0, .string (⟨#[]⟩ : ByteArray)] 34 (0, 0)) (by (with_reducible repeat (first | refine blk_drewN ?_ _ | refine blk_drew ?_ | refine blk_alloc ?_ _)); exact BK266.out) NB266_0.out (by simp)); have n1_ := Aside0.mk (Kd.R_mono (Kd.R_keep (IsS107.apart (show IsS107 w0 _ g s0_0 t276 from by repeat (first | (with_reducible first | exact HI0.out | apply IsS107.alloc | apply IsS107.drewN | apply IsS107.drew | apply IsS107.set_1 | refine IsS107.far ?_ NB0_266.out _ | refine IsS107.far ?_ NB0_274.out _) | exact HI0.out)) (by (with_reducible repeat (first | apply Kd.R_alloc | apply Kd.R_drewN | apply Kd.R_drew)); exact HO269.out) (by decide)) hk (fun _ h => h.2)) (fun _ h => h.1)); have n2_ := Aside0.mk (KeepBut.blk hk (g' := gb274) (o := .cells #[.string t270, .int .i64 t272, .int .i64 0, .string (⟨#[]⟩ : ByteArray)] 34 (0, 0)) (by (with_reducible repeat (first | refine blk_drewN ?_ _ | refine blk_drew ?_ | refine blk_alloc ?_ _)); exact BK274.out) NB274_0.out (by simp)); have n3_ := Aside0.mk (Kd.R_mono (Kd.R_keep (IsS107.apart (show IsS107 w0 _ g s0_0 t276 from by repeat (first | (with_reducible first | exact HI0.out | apply IsS107.alloc | apply IsS107.drewN | apply IsS107.drew | apply IsS107.set_1 | refine IsS107.far ?_ NB0_266.out _ | refine IsS107.far ?_ NB0_274.out _) | exact HI0.out)) (by (with_reducible repeat (first | apply Kd.R_alloc | apply Kd.R_drewN | apply Kd.R_drew)); exact HO279.out) (by decide)) hk (fun _ h => h.2)) (fun _ h => h.1)); have n4_ := Aside0.mk (KeepBut.trans (by repeat (first | (with_reducible first | exact HK.out | apply KeepBut.set_ | apply keep_drewN | apply keep_drew | apply keep_alloc | refine keep_far ?_ GW266.out _ | refine keep_far ?_ GW274.out _) | exact HK.out)) hk (.inl rfl)); have n5_ := Aside0.mk (hb); have n6_ := Aside0.mk (hi); clear BK266; clear HO269; clear BK274; clear HO279; clear HK; clear HB; clear HI0; have BK266 := n0_; have HO269 := n1_; have BK274 := n2_; have HO279 := n3_; have HK := n4_; have HB := n5_; have HI0 := n6_; clear n0_ n1_ n2_ n3_ n4_ n5_ n6_; (try clear hb); (try clear hb2); (try clear hk); (try clear hi); have hnb23 := NB274_266.out; have hnc23 := NB266_274.out; have hnb24 := NB274_0.out; have hnc24 := NB0_274.out; have hcz25_0 : w22.cell? ⟨gb274, 0, none⟩ = some (.string t270) := (blk_cell BK274.out 0).trans rfl; have hcz25_1 : w22.cell? ⟨gb274, 1, none⟩ = some (.int .i64 t272) := (blk_cell BK274.out 1).trans rfl; have hcz25_2 : w22.cell? ⟨gb274, 2, none⟩ = some (.int .i64 0) := (blk_cell BK274.out 2).trans rfl; have hcz25_3 : w22.cell? ⟨gb274, 3, none⟩ = some (.string (⟨#[]⟩ : ByteArray)) := (blk_cell BK274.out 3).trans rfl; have hfz25_0 := blk_frozen BK274.out 0; have hfz25_1 := blk_frozen BK274.out 1; have hfz25_2 := blk_frozen BK274.out 2; have hfz25_3 := blk_frozen BK274.out 3))
      go_meet
      case rel => exact ⟨_, (t281), (t280), ((⟨#[]⟩ : ByteArray)), H', ⟨by first | omega | exact Nat.le_refl _⟩, ⟨by (with_reducible repeat (first | refine blk_drewN ?_ _ | refine blk_drew ?_ | refine blk_alloc ?_ _)); refine blk_far ?_ NB266_274.out _; (with_reducible repeat (first | refine blk_drewN ?_ _ | refine blk_drew ?_ | refine blk_alloc ?_ _)); exact BK266.out⟩, ⟨by (with_reducible repeat (first | refine blk_drewN ?_ _ | refine blk_drew ?_ | refine blk_alloc ?_ _)); refine blk_put (cs := #[.string t270, .int .i64 t272, .int .i64 0, .string (⟨#[]⟩ : ByteArray)]) ?_ 2 _ rfl; (with_reducible repeat (first | refine blk_drewN ?_ _ | refine blk_drew ?_ | refine blk_alloc ?_ _)); exact BK274.out⟩, ⟨by repeat (first | (with_reducible first | exact HI0.out | apply IsS107.alloc | apply IsS107.drewN | apply IsS107.drew | apply IsS107.set_1 | refine IsS107.far ?_ NB0_266.out _ | refine IsS107.far ?_ NB0_274.out _) | exact HI0.out)⟩, ⟨by repeat (first | (with_reducible first | exact HK.out | apply KeepBut.set_ | apply keep_drewN | apply keep_drew | apply keep_alloc | refine keep_far ?_ GW266.out _ | refine keep_far ?_ GW274.out _) | exact HK.out)⟩, ⟨by repeat (first | (with_reducible first | exact HB.out | apply below_alloc | apply pw_below_drewN | apply below_drew1 | refine below_set ?_ (IsS107.ge HI0.out) | refine below_set ?_ GE266.out | refine below_set ?_ GE274.out) | exact HB.out)⟩⟩
    · rw [if_neg c15] at H
      have c15b0 : (t272 == 1) = false := beq_eq_false_iff_ne.mpr c15
      have c15b1 : (t272 != 1) = true := bne_iff_ne.mpr c15
      (first | rw [c15b0] | (simp only [i64_w, i32_w]; rw [c15b0]) | skip)
      by_cases c26 : t272 = 2
      · rw [if_pos c26] at H
        have c26b0 : (t272 == 2) = true := beq_iff_eq.mpr c26
        have c26b1 : (t272 != 2) = false := bne_eq_false_iff_eq.mpr c26
        clear c26
        replace H := Option.bind_eq_some_iff.mp H
        obtain ⟨⟨t282, t283⟩, A270, H⟩ := H
        replace H : (kauditmake_Src_Pair.j0 k s0_0 t283 t270 t272 0 t282) = some (r1, r2, r3, r4, r5) := H
        have A27 := Aside0.mk A270
        clear A270
        have H' := Aside0.mk H
        clear H
        go_wp2_with (first | ((with_reducible refine gate_callee (f := 77) rfl ?_); refine goesL_ (some 23) rfl rfl Tryd.func77 (by kernel_rfl) rfl #[.pointer (some ⟨g, 0, none⟩)] rfl (by (try simp only [List.map_toArray, List.map_cons, List.map_nil]); first | done | rfl | (simp only [List.length_drop, List.length_take]; rfl)) ?_; (with_reducible refine (kauditmake_Src_Text.calls k g s0_0 t273 t282 t283 w0 _ ?side1 ?side2 A27.out).mono ?_); (case side1 => repeat (first | (with_reducible first | exact HI0.out | apply IsS107.alloc | apply IsS107.drewN | apply IsS107.drew | apply IsS107.set_1 | refine IsS107.far ?_ NB0_266.out _ | refine IsS107.far ?_ NB0_274.out _) | exact HI0.out)); (case side2 => repeat (first | (with_reducible first | exact HB.out | apply below_alloc | apply pw_below_drewN | apply below_drew1 | refine below_set ?_ (IsS107.ge HI0.out) | refine below_set ?_ GE266.out | refine below_set ?_ GE274.out) | exact HB.out)); rintro e w28 ⟨rfl, hi, hb, hk⟩; refine ⟨_, rfl, ?_⟩; have n0_ := Aside0.mk (KeepBut.blk hk (g' := gb266) (o := .cells #[.string (⟨#[]⟩ : ByteArray), .int .i64 0, .int .i64 0, .string (⟨#[]⟩ : ByteArray)] 34 (0, 0)) (by (with_reducible repeat (first | refine blk_drewN ?_ _ | refine blk_drew ?_ | refine blk_alloc ?_ _)); refine blk_far ?_ NB266_274.out _; (with_reducible repeat (first | refine blk_drewN ?_ _ | refine blk_drew ?_ | refine blk_alloc ?_ _)); refine blk_far ?_ NB266_274.out _; (with_reducible repeat (first | refine blk_drewN ?_ _ | refine blk_drew ?_ | refine blk_alloc ?_ _)); refine blk_far ?_ NB266_274.out _; (with_reducible repeat (first | refine blk_drewN ?_ _ | refine blk_drew ?_ | refine blk_alloc ?_ _)); refine blk_far ?_ NB266_274.out _; (with_reducible repeat (first | refine blk_drewN ?_ _ | refine blk_drew ?_ | refine blk_alloc ?_ _)); exact BK266.out) NB266_0.out (by simp)); have n1_ := Aside0.mk (Kd.R_mono (Kd.R_keep (IsS107.apart (show IsS107 w0 _ g s0_0 t273 from by repeat (first | (with_reducible first | exact HI0.out | apply IsS107.alloc | apply IsS107.drewN | apply IsS107.drew | apply IsS107.set_1 | refine IsS107.far ?_ NB0_266.out _ | refine IsS107.far ?_ NB0_274.out _) | exact HI0.out)) (by (with_reducible repeat (first | apply Kd.R_alloc | apply Kd.R_drewN | apply Kd.R_drew)); exact (Kd.R_mono (Kd.R_far (p := ⟨gb274, 3, none⟩) (Kd.R_far (p := ⟨gb274, 2, none⟩) (Kd.R_far (p := ⟨gb274, 1, none⟩) (Kd.R_far (p := ⟨gb274, 0, none⟩) (Kd.R_types HO269.out BK274.out (by decide)) (fun _ hk => hk.2) (.string t270)) (fun _ hk => hk.2) (.int .i64 t272)) (fun _ hk => hk.2) (.int .i64 0)) (fun _ hk => hk.2) (.string (⟨#[]⟩ : ByteArray))) (fun _ h_ => h_.1))) (by decide)) hk (fun _ h => h.2)) (fun _ h => h.1)); have n2_ := Aside0.mk (KeepBut.blk hk (g' := gb274) (o := .cells #[.string t270, .int .i64 t272, .int .i64 0, .string (⟨#[]⟩ : ByteArray)] 34 (0, 0)) (by (with_reducible repeat (first | refine blk_drewN ?_ _ | refine blk_drew ?_ | refine blk_alloc ?_ _)); refine blk_put (cs := #[.string t270, .int .i64 t272, .int .i64 0, .string (⟨#[]⟩ : ByteArray)]) ?_ 3 _ rfl; (with_reducible repeat (first | refine blk_drewN ?_ _ | refine blk_drew ?_ | refine blk_alloc ?_ _)); refine blk_put (cs := #[.string t270, .int .i64 t272, .int .i64 0, .string (⟨#[]⟩ : ByteArray)]) ?_ 2 _ rfl; (with_reducible repeat (first | refine blk_drewN ?_ _ | refine blk_drew ?_ | refine blk_alloc ?_ _)); refine blk_put (cs := #[.string t270, .int .i64 0, .int .i64 0, .string (⟨#[]⟩ : ByteArray)]) ?_ 1 _ rfl; (with_reducible repeat (first | refine blk_drewN ?_ _ | refine blk_drew ?_ | refine blk_alloc ?_ _)); refine blk_put (cs := #[.string (⟨#[]⟩ : ByteArray), .int .i64 0, .int .i64 0, .string (⟨#[]⟩ : ByteArray)]) ?_ 0 _ rfl; (with_reducible repeat (first | refine blk_drewN ?_ _ | refine blk_drew ?_ | refine blk_alloc ?_ _)); exact BK274.out) NB274_0.out (by simp)); have n3_ := Aside0.mk (KeepBut.trans (by repeat (first | (with_reducible first | exact HK.out | apply KeepBut.set_ | apply keep_drewN | apply keep_drew | apply keep_alloc | refine keep_far ?_ GW266.out _ | refine keep_far ?_ GW274.out _) | exact HK.out)) hk (.inl rfl)); have n4_ := Aside0.mk (hb); have n5_ := Aside0.mk (hi); clear BK266; clear HO269; clear BK274; clear HK; clear HB; clear HI0; have BK266 := n0_; have HO269 := n1_; have BK274 := n2_; have HK := n3_; have HB := n4_; have HI0 := n5_; clear n0_ n1_ n2_ n3_ n4_ n5_; (try clear hb); (try clear hb2); (try clear hk); (try clear hi); have hnb29 := NB274_266.out; have hnc29 := NB266_274.out; have hnb30 := NB274_0.out; have hnc30 := NB0_274.out; have hcz31_0 : w28.cell? ⟨gb274, 0, none⟩ = some (.string t270) := (blk_cell BK274.out 0).trans rfl; have hcz31_1 : w28.cell? ⟨gb274, 1, none⟩ = some (.int .i64 t272) := (blk_cell BK274.out 1).trans rfl; have hcz31_2 : w28.cell? ⟨gb274, 2, none⟩ = some (.int .i64 0) := (blk_cell BK274.out 2).trans rfl; have hcz31_3 : w28.cell? ⟨gb274, 3, none⟩ = some (.string (⟨#[]⟩ : ByteArray)) := (blk_cell BK274.out 3).trans rfl; have hfz31_0 := blk_frozen BK274.out 0; have hfz31_1 := blk_frozen BK274.out 1; have hfz31_2 := blk_frozen BK274.out 2; have hfz31_3 := blk_frozen BK274.out 3))
        go_meet
        case rel => exact ⟨_, (t283), (0), (t282), H', ⟨by first | omega | exact Nat.le_refl _⟩, ⟨by (with_reducible repeat (first | refine blk_drewN ?_ _ | refine blk_drew ?_ | refine blk_alloc ?_ _)); refine blk_far ?_ NB266_274.out _; (with_reducible repeat (first | refine blk_drewN ?_ _ | refine blk_drew ?_ | refine blk_alloc ?_ _)); exact BK266.out⟩, ⟨by (with_reducible repeat (first | refine blk_drewN ?_ _ | refine blk_drew ?_ | refine blk_alloc ?_ _)); refine blk_put (cs := #[.string t270, .int .i64 t272, .int .i64 0, .string (⟨#[]⟩ : ByteArray)]) ?_ 3 _ rfl; (with_reducible repeat (first | refine blk_drewN ?_ _ | refine blk_drew ?_ | refine blk_alloc ?_ _)); exact BK274.out⟩, ⟨by repeat (first | (with_reducible first | exact HI0.out | apply IsS107.alloc | apply IsS107.drewN | apply IsS107.drew | apply IsS107.set_1 | refine IsS107.far ?_ NB0_266.out _ | refine IsS107.far ?_ NB0_274.out _) | exact HI0.out)⟩, ⟨by repeat (first | (with_reducible first | exact HK.out | apply KeepBut.set_ | apply keep_drewN | apply keep_drew | apply keep_alloc | refine keep_far ?_ GW266.out _ | refine keep_far ?_ GW274.out _) | exact HK.out)⟩, ⟨by repeat (first | (with_reducible first | exact HB.out | apply below_alloc | apply pw_below_drewN | apply below_drew1 | refine below_set ?_ (IsS107.ge HI0.out) | refine below_set ?_ GE266.out | refine below_set ?_ GE274.out) | exact HB.out)⟩⟩
      · rw [if_neg c26] at H
        have c26b0 : (t272 == 2) = false := beq_eq_false_iff_ne.mpr c26
        have c26b1 : (t272 != 2) = true := bne_iff_ne.mpr c26
        have H' := Aside0.mk H
        clear H
        go_wp2
        go_meet
        case rel => exact ⟨_, (t273), (0), ((⟨#[]⟩ : ByteArray)), H', ⟨by first | omega | exact Nat.le_refl _⟩, ⟨by (with_reducible repeat (first | refine blk_drewN ?_ _ | refine blk_drew ?_ | refine blk_alloc ?_ _)); refine blk_far ?_ NB266_274.out _; (with_reducible repeat (first | refine blk_drewN ?_ _ | refine blk_drew ?_ | refine blk_alloc ?_ _)); refine blk_far ?_ NB266_274.out _; (with_reducible repeat (first | refine blk_drewN ?_ _ | refine blk_drew ?_ | refine blk_alloc ?_ _)); refine blk_far ?_ NB266_274.out _; (with_reducible repeat (first | refine blk_drewN ?_ _ | refine blk_drew ?_ | refine blk_alloc ?_ _)); refine blk_far ?_ NB266_274.out _; (with_reducible repeat (first | refine blk_drewN ?_ _ | refine blk_drew ?_ | refine blk_alloc ?_ _)); exact BK266.out⟩, ⟨by (with_reducible repeat (first | refine blk_drewN ?_ _ | refine blk_drew ?_ | refine blk_alloc ?_ _)); refine blk_put (cs := #[.string t270, .int .i64 t272, .int .i64 0, .string (⟨#[]⟩ : ByteArray)]) ?_ 3 _ rfl; (with_reducible repeat (first | refine blk_drewN ?_ _ | refine blk_drew ?_ | refine blk_alloc ?_ _)); refine blk_put (cs := #[.string t270, .int .i64 t272, .int .i64 0, .string (⟨#[]⟩ : ByteArray)]) ?_ 2 _ rfl; (with_reducible repeat (first | refine blk_drewN ?_ _ | refine blk_drew ?_ | refine blk_alloc ?_ _)); refine blk_put (cs := #[.string t270, .int .i64 0, .int .i64 0, .string (⟨#[]⟩ : ByteArray)]) ?_ 1 _ rfl; (with_reducible repeat (first | refine blk_drewN ?_ _ | refine blk_drew ?_ | refine blk_alloc ?_ _)); refine blk_put (cs := #[.string (⟨#[]⟩ : ByteArray), .int .i64 0, .int .i64 0, .string (⟨#[]⟩ : ByteArray)]) ?_ 0 _ rfl; (with_reducible repeat (first | refine blk_drewN ?_ _ | refine blk_drew ?_ | refine blk_alloc ?_ _)); exact BK274.out⟩, ⟨by repeat (first | (with_reducible first | exact HI0.out | apply IsS107.alloc | apply IsS107.drewN | apply IsS107.drew | apply IsS107.set_1 | refine IsS107.far ?_ NB0_266.out _ | refine IsS107.far ?_ NB0_274.out _) | exact HI0.out)⟩, ⟨by repeat (first | (with_reducible first | exact HK.out | apply KeepBut.set_ | apply keep_drewN | apply keep_drew | apply keep_alloc | refine keep_far ?_ GW266.out _ | refine keep_far ?_ GW274.out _) | exact HK.out)⟩, ⟨by repeat (first | (with_reducible first | exact HB.out | apply below_alloc | apply pw_below_drewN | apply below_drew1 | refine below_set ?_ (IsS107.ge HI0.out) | refine below_set ?_ GE266.out | refine below_set ?_ GE274.out) | exact HB.out)⟩⟩
  case rest =>
    clear HC4
    try clear c1
    try clear c2
    try clear p2
    try clear c3
    try clear c7
    try clear c12
    try clear c13
    try clear c15
    try clear c15b0
    try clear c15b1
    try clear c23
    try clear c24
    try clear c26
    try clear c26b0
    try clear c26b1
    try clear c29
    try clear c30
    try clear hcz14_0
    try clear hcz14_1
    try clear hcz14_2
    try clear hcz14_3
    try clear hcz25_0
    try clear hcz25_1
    try clear hcz25_2
    try clear hcz25_3
    try clear hcz31_0
    try clear hcz31_1
    try clear hcz31_2
    try clear hcz31_3
    try clear hfz14_0
    try clear hfz14_1
    try clear hfz14_2
    try clear hfz14_3
    try clear hfz25_0
    try clear hfz25_1
    try clear hfz25_2
    try clear hfz25_3
    try clear hfz31_0
    try clear hfz31_1
    try clear hfz31_2
    try clear hfz31_3
    obtain ⟨kq, x1001_3, x275002_3, x275003_3, HA, HJ3, BK266, BK274, HI0, HK, HB⟩ := hcut
    cases kq with
    | zero => exact absurd HA.out (by simp [kauditmake_Src_Pair.j0])
    | succ kj3 =>
      have H := HA.out
      clear HA
      simp only [kauditmake_Src_Pair.j0] at H
      replace H := Option.bind_eq_some_iff.mp H
      obtain ⟨⟨t284, t285⟩, A320, H⟩ := H
      replace H : (if t284 = 23 then ((kauditmake_Src_Word.f s0_0 t285 (([(⟨#[]⟩ : ByteArray), (⟨#[65]⟩ : ByteArray), (⟨#[49, 97]⟩ : ByteArray), (⟨#[97, 45, 98]⟩ : ByteArray), (⟨#[97, 98, 99, 100, 101, 102, 103, 104, 105, 106, 107, 108, 109, 110, 111, 112]⟩ : ByteArray), (⟨#[97, 98, 99, 100, 101, 102, 103, 104, 105, 106, 107, 108, 109, 110, 111, 112, 113]⟩ : ByteArray)] : List ByteArray))).bind fun bt289 => ((kauditmake_Src_N.f s0_0 bt289.2 2).bind fun bt291 => (some (bt289.1, t272, bt291.1, x275003_3, bt291.2)))) else (some (t270, t272, x275002_3, x275003_3, t285))) = some (r1, r2, r3, r4, r5) := H
      have A32 := Aside0.mk A320
      clear A320
      by_cases c33 : t284 = 23
      · rw [if_pos c33] at H
        have c33b0 : (t284 == 23) = true := beq_iff_eq.mpr c33
        have c33b1 : (t284 != 23) = false := bne_eq_false_iff_eq.mpr c33
        clear c33
        obtain ⟨y286, hy286⟩ : ∃ y_ : List ByteArray, y_ = (([(⟨#[]⟩ : ByteArray), (⟨#[65]⟩ : ByteArray), (⟨#[49, 97]⟩ : ByteArray), (⟨#[97, 45, 98]⟩ : ByteArray), (⟨#[97, 98, 99, 100, 101, 102, 103, 104, 105, 106, 107, 108, 109, 110, 111, 112]⟩ : ByteArray), (⟨#[97, 98, 99, 100, 101, 102, 103, 104, 105, 106, 107, 108, 109, 110, 111, 112, 113]⟩ : ByteArray)] : List ByteArray)) := ⟨_, rfl⟩
        replace H : ((kauditmake_Src_Word.f s0_0 t285 y286).bind fun bt289 => ((kauditmake_Src_N.f s0_0 bt289.2 2).bind fun bt291 => (some (bt289.1, t272, bt291.1, x275003_3, bt291.2)))) = some (r1, r2, r3, r4, r5) := by first | (rw [hy286]; with_reducible exact H) | (have H2_ := (Option.bind_some _ _).symm.trans H; rw [hy286]; with_reducible exact H2_) | (have H2_ := (Option.bind_some _ _).symm.trans H; with_reducible exact H2_) | with_reducible exact H | (rw [hy286]; exact H) | exact H
        have Ny286 := Aside0.mk hy286
        clear hy286
        replace H := Option.bind_eq_some_iff.mp H
        obtain ⟨⟨t289, t290⟩, A340, H⟩ := H
        replace H : ((kauditmake_Src_N.f s0_0 t290 2).bind fun bt291 => (some (t289, t272, bt291.1, x275003_3, bt291.2))) = some (r1, r2, r3, r4, r5) := H
        have A34 := Aside0.mk A340
        clear A340
        replace H := Option.bind_eq_some_iff.mp H
        obtain ⟨⟨t291, t292⟩, A350, H⟩ := H
        replace H : (some (t289, t272, t291, x275003_3, t292)) = some (r1, r2, r3, r4, r5) := H
        have A35 := Aside0.mk A350
        clear A350
        simp only [Option.some.injEq, Prod.mk.injEq] at H
        obtain ⟨rfl, rfl, rfl, rfl, rfl⟩ := H
        go_wp2_with (first | ((with_reducible refine gate_callee (f := 34) rfl ?_); refine goesL_ (some 26) rfl rfl Tryd.func34 (by kernel_rfl) rfl #[.pointer (some ⟨g, 0, none⟩), .int .i64 24] rfl (by (try simp only [List.map_toArray, List.map_cons, List.map_nil]); first | done | rfl | (simp only [List.length_drop, List.length_take]; rfl)) ?_; (with_reducible refine (kauditmake_Src_N.calls g s0_0 x1001_3 24 t284 t285 w0 _ ?side1 ?side2 A32.out).mono ?_); (case side1 => repeat (first | (with_reducible first | exact HI0.out | apply IsS107.alloc | apply IsS107.drewN | apply IsS107.drew | apply IsS107.set_1 | refine IsS107.far ?_ NB0_266.out _ | refine IsS107.far ?_ NB0_274.out _) | exact HI0.out)); (case side2 => repeat (first | (with_reducible first | exact HB.out | apply below_alloc | apply pw_below_drewN | apply below_drew1 | refine below_set ?_ (IsS107.ge HI0.out) | refine below_set ?_ GE266.out | refine below_set ?_ GE274.out) | exact HB.out)); rintro e w36 ⟨rfl, hi, hb, hk⟩; refine ⟨_, rfl, ?_⟩; have n0_ := Aside0.mk (KeepBut.blk hk (g' := gb266) (o := .cells #[.string (⟨#[]⟩ : ByteArray), .int .i64 0, .int .i64 0, .string (⟨#[]⟩ : ByteArray)] 34 (0, 0)) (by (with_reducible repeat (first | refine blk_drewN ?_ _ | refine blk_drew ?_ | refine blk_alloc ?_ _)); exact BK266.out) NB266_0.out (by simp)); have n1_ := Aside0.mk (KeepBut.blk hk (g' := gb274) (o := .cells #[.string t270, .int .i64 t272, .int .i64 x275002_3, .string x275003_3] 34 (0, 0)) (by (with_reducible repeat (first | refine blk_drewN ?_ _ | refine blk_drew ?_ | refine blk_alloc ?_ _)); exact BK274.out) NB274_0.out (by simp)); have n2_ := Aside0.mk (KeepBut.trans (by repeat (first | (with_reducible first | exact HK.out | apply KeepBut.set_ | apply keep_drewN | apply keep_drew | apply keep_alloc | refine keep_far ?_ GW266.out _ | refine keep_far ?_ GW274.out _) | exact HK.out)) hk (.inl rfl)); have n3_ := Aside0.mk (hb); have n4_ := Aside0.mk (hi); clear BK266; clear BK274; clear HK; clear HB; clear HI0; have BK266 := n0_; have BK274 := n1_; have HK := n2_; have HB := n3_; have HI0 := n4_; clear n0_ n1_ n2_ n3_ n4_; (try clear hb); (try clear hb2); (try clear hk); (try clear hi)) | ((with_reducible refine gate_dst (N := 29) rfl ?_); refine Kd.R_lit Kd.string _ 9 ?hg (N := 29) ?hd (xs := ([(⟨#[]⟩ : ByteArray), (⟨#[65]⟩ : ByteArray), (⟨#[49, 97]⟩ : ByteArray), (⟨#[97, 45, 98]⟩ : ByteArray), (⟨#[97, 98, 99, 100, 101, 102, 103, 104, 105, 106, 107, 108, 109, 110, 111, 112]⟩ : ByteArray), (⟨#[97, 98, 99, 100, 101, 102, 103, 104, 105, 106, 107, 108, 109, 110, 111, 112, 113]⟩ : ByteArray)] : List ByteArray)) (inner := [.string (⟨#[]⟩ : ByteArray), .string (⟨#[65]⟩ : ByteArray), .string (⟨#[49, 97]⟩ : ByteArray), .string (⟨#[97, 45, 98]⟩ : ByteArray), .string (⟨#[97, 98, 99, 100, 101, 102, 103, 104, 105, 106, 107, 108, 109, 110, 111, 112]⟩ : ByteArray), .string (⟨#[97, 98, 99, 100, 101, 102, 103, 104, 105, 106, 107, 108, 109, 110, 111, 112, 113]⟩ : ByteArray)]) (ok := fun _ => True) (okp := fun _ => True) ?hr ?hp (fun _ hk => hk) trivial (Below.refl _ _) (Nat.le_refl _) (by simp) ?_; (case hd => rfl); (case hg => rfl); (case hr => first | (go_simp; done) | (go_simp; rfl)); (case hp => exact (Reps.one (show Kd.M Kd.string _ _ _ (⟨#[]⟩ : ByteArray) [.string (⟨#[]⟩ : ByteArray)] from rfl) (Reps.one (show Kd.M Kd.string _ _ _ (⟨#[65]⟩ : ByteArray) [.string (⟨#[65]⟩ : ByteArray)] from rfl) (Reps.one (show Kd.M Kd.string _ _ _ (⟨#[49, 97]⟩ : ByteArray) [.string (⟨#[49, 97]⟩ : ByteArray)] from rfl) (Reps.one (show Kd.M Kd.string _ _ _ (⟨#[97, 45, 98]⟩ : ByteArray) [.string (⟨#[97, 45, 98]⟩ : ByteArray)] from rfl) (Reps.one (show Kd.M Kd.string _ _ _ (⟨#[97, 98, 99, 100, 101, 102, 103, 104, 105, 106, 107, 108, 109, 110, 111, 112]⟩ : ByteArray) [.string (⟨#[97, 98, 99, 100, 101, 102, 103, 104, 105, 106, 107, 108, 109, 110, 111, 112]⟩ : ByteArray)] from rfl) (Reps.one (show Kd.M Kd.string _ _ _ (⟨#[97, 98, 99, 100, 101, 102, 103, 104, 105, 106, 107, 108, 109, 110, 111, 112, 113]⟩ : ByteArray) [.string (⟨#[97, 98, 99, 100, 101, 102, 103, 104, 105, 106, 107, 108, 109, 110, 111, 112, 113]⟩ : ByteArray)] from rfl) (Reps.none _ _)))))))); intro v287 w37 ho38 hb hg_ hnew_; clear hg_ hnew_; (first | rw [← Ny286.out] at ho38 | (simp only [Int.reduceToNat] at ho38; rw [← Ny286.out] at ho38)); have n0_ := Aside0.mk (Kd.R_lower ho38 (keep_size (w := w) (g := g) (row := none) (by repeat (first | (with_reducible first | exact HK.out | apply KeepBut.set_ | apply keep_drewN | apply keep_drew | apply keep_alloc | refine keep_far ?_ GW266.out _ | refine keep_far ?_ GW274.out _) | exact HK.out)))); have n1_ := Aside0.mk (blk_below (g := gb266) (o := .cells #[.string (⟨#[]⟩ : ByteArray), .int .i64 0, .int .i64 0, .string (⟨#[]⟩ : ByteArray)] 34 (0, 0)) (by (with_reducible repeat (first | refine blk_drewN ?_ _ | refine blk_drew ?_ | refine blk_alloc ?_ _)); exact BK266.out) hb); have n2_ := Aside0.mk (blk_below (g := gb274) (o := .cells #[.string t270, .int .i64 t272, .int .i64 x275002_3, .string x275003_3] 34 (0, 0)) (by (with_reducible repeat (first | refine blk_drewN ?_ _ | refine blk_drew ?_ | refine blk_alloc ?_ _)); exact BK274.out) hb); have n3_ := Aside0.mk (IsS107.below (by repeat (first | (with_reducible first | exact HI0.out | apply IsS107.alloc | apply IsS107.drewN | apply IsS107.drew | apply IsS107.set_1 | refine IsS107.far ?_ NB0_266.out _ | refine IsS107.far ?_ NB0_274.out _) | exact HI0.out)) hb); have n4_ := Aside0.mk (KeepBut.trans (by repeat (first | (with_reducible first | exact HK.out | apply KeepBut.set_ | apply keep_drewN | apply keep_drew | apply keep_alloc | refine keep_far ?_ GW266.out _ | refine keep_far ?_ GW274.out _) | exact HK.out)) (KeepBut.of_below hb g none) (.inl rfl)); have n5_ := Aside0.mk (below_step (by repeat (first | (with_reducible first | exact HB.out | apply below_alloc | apply pw_below_drewN | apply below_drew1 | refine below_set ?_ (IsS107.ge HI0.out) | refine below_set ?_ GE266.out | refine below_set ?_ GE274.out) | exact HB.out)) hb); clear BK266; clear BK274; clear HI0; clear HK; clear HB; have HO288 := n0_; have BK266 := n1_; have BK274 := n2_; have HI0 := n3_; have HK := n4_; have HB := n5_; clear n0_ n1_ n2_ n3_ n4_ n5_; clear hb ho38; obtain ⟨Ao39, co39, eo39⟩ := Kd.R_slice HO288.out; subst eo39) | ((with_reducible refine gate_callee (f := 76) rfl ?_); refine goesL_ (some 30) rfl rfl Tryd.func76 (by kernel_rfl) rfl #[.pointer (some ⟨g, 0, none⟩), .slice Ao39 y286.length co39] rfl (by (try simp only [List.map_toArray, List.map_cons, List.map_nil]); first | done | rfl | (simp only [List.length_drop, List.length_take]; rfl)) ?_; (with_reducible refine (kauditmake_Src_Word.calls g s0_0 t285 _ _ y286 t289 t290 w0 _ ?side1 ?side2 ?side3 ?side4 ?side5 A34.out).mono ?_); (case side1 => repeat (first | (with_reducible first | exact HI0.out | apply IsS107.alloc | apply IsS107.drewN | apply IsS107.drew | apply IsS107.set_1 | refine IsS107.far ?_ NB0_266.out _ | refine IsS107.far ?_ NB0_274.out _) | exact HI0.out)); (case side2 => repeat (first | (with_reducible first | exact HB.out | apply below_alloc | apply pw_below_drewN | apply below_drew1 | refine below_set ?_ (IsS107.ge HI0.out) | refine below_set ?_ GE266.out | refine below_set ?_ GE274.out) | exact HB.out)); (case side3 => repeat (first | exact (Kd.R_reads' HO288.out).2.2 | (with_reducible refine Kd.C_alloc ?_ _) | (with_reducible refine Kd.C_drewN ?_ _) | (with_reducible refine Kd.C_drew ?_))); (case side4 => exact (Kd.R_reads' HO288.out).2.1); (case side5 => exact far_slice (IsS107.own_ne HI0.out HO288.out (by decide))); rintro e w40 ⟨rfl, hi, hb, hk⟩; refine ⟨_, rfl, ?_⟩; have n0_ := Aside0.mk (KeepBut.blk hk (g' := gb266) (o := .cells #[.string (⟨#[]⟩ : ByteArray), .int .i64 0, .int .i64 0, .string (⟨#[]⟩ : ByteArray)] 34 (0, 0)) (by (with_reducible repeat (first | refine blk_drewN ?_ _ | refine blk_drew ?_ | refine blk_alloc ?_ _)); exact BK266.out) NB266_0.out (by simp)); have n1_ := Aside0.mk (KeepBut.blk hk (g' := gb274) (o := .cells #[.string t270, .int .i64 t272, .int .i64 x275002_3, .string x275003_3] 34 (0, 0)) (by (with_reducible repeat (first | refine blk_drewN ?_ _ | refine blk_drew ?_ | refine blk_alloc ?_ _)); exact BK274.out) NB274_0.out (by simp)); have n2_ := Aside0.mk (Kd.R_mono (Kd.R_keep (IsS107.apart (show IsS107 w0 _ g s0_0 t285 from by repeat (first | (with_reducible first | exact HI0.out | apply IsS107.alloc | apply IsS107.drewN | apply IsS107.drew | apply IsS107.set_1 | refine IsS107.far ?_ NB0_266.out _ | refine IsS107.far ?_ NB0_274.out _) | exact HI0.out)) (by (with_reducible repeat (first | apply Kd.R_alloc | apply Kd.R_drewN | apply Kd.R_drew)); exact HO288.out) (by decide)) hk (fun _ h => h.2)) (fun _ h => h.1)); have n3_ := Aside0.mk (KeepBut.trans (by repeat (first | (with_reducible first | exact HK.out | apply KeepBut.set_ | apply keep_drewN | apply keep_drew | apply keep_alloc | refine keep_far ?_ GW266.out _ | refine keep_far ?_ GW274.out _) | exact HK.out)) hk (.inl rfl)); have n4_ := Aside0.mk (hb); have n5_ := Aside0.mk (hi); clear BK266; clear BK274; clear HO288; clear HK; clear HB; clear HI0; have BK266 := n0_; have BK274 := n1_; have HO288 := n2_; have HK := n3_; have HB := n4_; have HI0 := n5_; clear n0_ n1_ n2_ n3_ n4_ n5_; (try clear hb); (try clear hb2); (try clear hk); (try clear hi)) | ((with_reducible refine gate_callee (f := 34) rfl ?_); refine goesL_ (some 32) rfl rfl Tryd.func34 (by kernel_rfl) rfl #[.pointer (some ⟨g, 0, none⟩), .int .i64 2] rfl (by (try simp only [List.map_toArray, List.map_cons, List.map_nil]); first | done | rfl | (simp only [List.length_drop, List.length_take]; rfl)) ?_; (with_reducible refine (kauditmake_Src_N.calls g s0_0 t290 2 t291 t292 w0 _ ?side1 ?side2 A35.out).mono ?_); (case side1 => repeat (first | (with_reducible first | exact HI0.out | apply IsS107.alloc | apply IsS107.drewN | apply IsS107.drew | apply IsS107.set_1 | refine IsS107.far ?_ NB0_266.out _ | refine IsS107.far ?_ NB0_274.out _) | exact HI0.out)); (case side2 => repeat (first | (with_reducible first | exact HB.out | apply below_alloc | apply pw_below_drewN | apply below_drew1 | refine below_set ?_ (IsS107.ge HI0.out) | refine below_set ?_ GE266.out | refine below_set ?_ GE274.out) | exact HB.out)); rintro e w41 ⟨rfl, hi, hb, hk⟩; refine ⟨_, rfl, ?_⟩; have n0_ := Aside0.mk (KeepBut.blk hk (g' := gb266) (o := .cells #[.string (⟨#[]⟩ : ByteArray), .int .i64 0, .int .i64 0, .string (⟨#[]⟩ : ByteArray)] 34 (0, 0)) (by (with_reducible repeat (first | refine blk_drewN ?_ _ | refine blk_drew ?_ | refine blk_alloc ?_ _)); exact BK266.out) NB266_0.out (by simp)); have n1_ := Aside0.mk (KeepBut.blk hk (g' := gb274) (o := .cells #[.string t270, .int .i64 t272, .int .i64 x275002_3, .string x275003_3] 34 (0, 0)) (by (with_reducible repeat (first | refine blk_drewN ?_ _ | refine blk_drew ?_ | refine blk_alloc ?_ _)); exact BK274.out) NB274_0.out (by simp)); have n2_ := Aside0.mk (Kd.R_mono (Kd.R_keep (IsS107.apart (show IsS107 w0 _ g s0_0 t290 from by repeat (first | (with_reducible first | exact HI0.out | apply IsS107.alloc | apply IsS107.drewN | apply IsS107.drew | apply IsS107.set_1 | refine IsS107.far ?_ NB0_266.out _ | refine IsS107.far ?_ NB0_274.out _) | exact HI0.out)) (by (with_reducible repeat (first | apply Kd.R_alloc | apply Kd.R_drewN | apply Kd.R_drew)); exact HO288.out) (by decide)) hk (fun _ h => h.2)) (fun _ h => h.1)); have n3_ := Aside0.mk (KeepBut.trans (by repeat (first | (with_reducible first | exact HK.out | apply KeepBut.set_ | apply keep_drewN | apply keep_drew | apply keep_alloc | refine keep_far ?_ GW266.out _ | refine keep_far ?_ GW274.out _) | exact HK.out)) hk (.inl rfl)); have n4_ := Aside0.mk (hb); have n5_ := Aside0.mk (hi); clear BK266; clear BK274; clear HO288; clear HK; clear HB; clear HI0; have BK266 := n0_; have BK274 := n1_; have HO288 := n2_; have HK := n3_; have HB := n4_; have HI0 := n5_; clear n0_ n1_ n2_ n3_ n4_ n5_; (try clear hb); (try clear hb2); (try clear hk); (try clear hi); have hnb42 := NB274_266.out; have hnc42 := NB266_274.out; have hnb43 := NB274_0.out; have hnc43 := NB0_274.out; have hcz44_0 : w41.cell? ⟨gb274, 0, none⟩ = some (.string t270) := (blk_cell BK274.out 0).trans rfl; have hcz44_1 : w41.cell? ⟨gb274, 1, none⟩ = some (.int .i64 t272) := (blk_cell BK274.out 1).trans rfl; have hcz44_2 : w41.cell? ⟨gb274, 2, none⟩ = some (.int .i64 x275002_3) := (blk_cell BK274.out 2).trans rfl; have hcz44_3 : w41.cell? ⟨gb274, 3, none⟩ = some (.string x275003_3) := (blk_cell BK274.out 3).trans rfl; have hfz44_0 := blk_frozen BK274.out 0; have hfz44_1 := blk_frozen BK274.out 1; have hfz44_2 := blk_frozen BK274.out 2; have hfz44_3 := blk_frozen BK274.out 3; have hnb45 := NB266_0.out; have hnc45 := NB0_266.out; have hcz46_0 : w41.cell? ⟨gb266, 0, none⟩ = some (.string (⟨#[]⟩ : ByteArray)) := (blk_cell BK266.out 0).trans rfl; have hcz46_1 : w41.cell? ⟨gb266, 1, none⟩ = some (.int .i64 0) := (blk_cell BK266.out 1).trans rfl; have hcz46_2 : w41.cell? ⟨gb266, 2, none⟩ = some (.int .i64 0) := (blk_cell BK266.out 2).trans rfl; have hcz46_3 : w41.cell? ⟨gb266, 3, none⟩ = some (.string (⟨#[]⟩ : ByteArray)) := (blk_cell BK266.out 3).trans rfl; have hfz46_0 := blk_frozen BK266.out 0; have hfz46_1 := blk_frozen BK266.out 1; have hfz46_2 := blk_frozen BK266.out 2; have hfz46_3 := blk_frozen BK266.out 3))
        refine bodyPost_ret (results_cell_row rfl _ _ gb266 34 #[.string t289, .int .i64 t272, .int .i64 t291, .string x275003_3] (0, 0) _ rfl (by (with_reducible repeat (first | refine blk_drewN ?_ _ | refine blk_drew ?_ | refine blk_alloc ?_ _)); refine blk_put (cs := #[.string t289, .int .i64 t272, .int .i64 t291, .string (⟨#[]⟩ : ByteArray)]) ?_ 3 _ rfl; (with_reducible repeat (first | refine blk_drewN ?_ _ | refine blk_drew ?_ | refine blk_alloc ?_ _)); refine blk_put (cs := #[.string t289, .int .i64 t272, .int .i64 0, .string (⟨#[]⟩ : ByteArray)]) ?_ 2 _ rfl; (with_reducible repeat (first | refine blk_drewN ?_ _ | refine blk_drew ?_ | refine blk_alloc ?_ _)); refine blk_put (cs := #[.string t289, .int .i64 0, .int .i64 0, .string (⟨#[]⟩ : ByteArray)]) ?_ 1 _ rfl; (with_reducible repeat (first | refine blk_drewN ?_ _ | refine blk_drew ?_ | refine blk_alloc ?_ _)); refine blk_put (cs := #[.string (⟨#[]⟩ : ByteArray), .int .i64 0, .int .i64 0, .string (⟨#[]⟩ : ByteArray)]) ?_ 0 _ rfl; (with_reducible repeat (first | refine blk_drewN ?_ _ | refine blk_drew ?_ | refine blk_alloc ?_ _)); refine blk_far ?_ NB266_274.out _; (with_reducible repeat (first | refine blk_drewN ?_ _ | refine blk_drew ?_ | refine blk_alloc ?_ _)); refine blk_far ?_ NB266_274.out _; (with_reducible repeat (first | refine blk_drewN ?_ _ | refine blk_drew ?_ | refine blk_alloc ?_ _)); exact BK266.out) Tryd.underlying34 rfl (by kernel_rfl)) rfl ?_
        exact ⟨by first | rfl | (simp [errW_none, errW_some] <;> rfl) | (simp [*, errW_none, errW_some] <;> rfl) | (simp only [isEmpty_ne_, isEmpty_eq_]; rfl) | (simp [*, isEmpty_ne_, isEmpty_eq_]; done), by repeat (first | (with_reducible first | exact HI0.out | apply IsS107.alloc | apply IsS107.drewN | apply IsS107.drew | apply IsS107.set_1 | refine IsS107.far ?_ NB0_266.out _ | refine IsS107.far ?_ NB0_274.out _) | exact HI0.out), by repeat (first | (with_reducible first | exact HB.out | apply below_alloc | apply pw_below_drewN | apply below_drew1 | refine below_set ?_ (IsS107.ge HI0.out) | refine below_set ?_ GE266.out | refine below_set ?_ GE274.out) | exact HB.out), by repeat (first | (with_reducible first | exact HK.out | apply KeepBut.set_ | apply keep_drewN | apply keep_drew | apply keep_alloc | refine keep_far ?_ GW266.out _ | refine keep_far ?_ GW274.out _) | exact HK.out)⟩
      · rw [if_neg c33] at H
        have c33b0 : (t284 == 23) = false := beq_eq_false_iff_ne.mpr c33
        have c33b1 : (t284 != 23) = true := bne_iff_ne.mpr c33
        simp only [Option.some.injEq, Prod.mk.injEq] at H
        obtain ⟨rfl, rfl, rfl, rfl, rfl⟩ := H
        go_wp2_with (first | ((with_reducible refine gate_callee (f := 34) rfl ?_); refine goesL_ (some 26) rfl rfl Tryd.func34 (by kernel_rfl) rfl #[.pointer (some ⟨g, 0, none⟩), .int .i64 24] rfl (by (try simp only [List.map_toArray, List.map_cons, List.map_nil]); first | done | rfl | (simp only [List.length_drop, List.length_take]; rfl)) ?_; (with_reducible refine (kauditmake_Src_N.calls g s0_0 x1001_3 24 t284 t285 w0 _ ?side1 ?side2 A32.out).mono ?_); (case side1 => repeat (first | (with_reducible first | exact HI0.out | apply IsS107.alloc | apply IsS107.drewN | apply IsS107.drew | apply IsS107.set_1 | refine IsS107.far ?_ NB0_266.out _ | refine IsS107.far ?_ NB0_274.out _) | exact HI0.out)); (case side2 => repeat (first | (with_reducible first | exact HB.out | apply below_alloc | apply pw_below_drewN | apply below_drew1 | refine below_set ?_ (IsS107.ge HI0.out) | refine below_set ?_ GE266.out | refine below_set ?_ GE274.out) | exact HB.out)); rintro e w47 ⟨rfl, hi, hb, hk⟩; refine ⟨_, rfl, ?_⟩; have n0_ := Aside0.mk (KeepBut.blk hk (g' := gb266) (o := .cells #[.string (⟨#[]⟩ : ByteArray), .int .i64 0, .int .i64 0, .string (⟨#[]⟩ : ByteArray)] 34 (0, 0)) (by (with_reducible repeat (first | refine blk_drewN ?_ _ | refine blk_drew ?_ | refine blk_alloc ?_ _)); exact BK266.out) NB266_0.out (by simp)); have n1_ := Aside0.mk (KeepBut.blk hk (g' := gb274) (o := .cells #[.string t270, .int .i64 t272, .int .i64 x275002_3, .string x275003_3] 34 (0, 0)) (by (with_reducible repeat (first | refine blk_drewN ?_ _ | refine blk_drew ?_ | refine blk_alloc ?_ _)); exact BK274.out) NB274_0.out (by simp)); have n2_ := Aside0.mk (KeepBut.trans (by repeat (first | (with_reducible first | exact HK.out | apply KeepBut.set_ | apply keep_drewN | apply keep_drew | apply keep_alloc | refine keep_far ?_ GW266.out _ | refine keep_far ?_ GW274.out _) | exact HK.out)) hk (.inl rfl)); have n3_ := Aside0.mk (hb); have n4_ := Aside0.mk (hi); clear BK266; clear BK274; clear HK; clear HB; clear HI0; have BK266 := n0_; have BK274 := n1_; have HK := n2_; have HB := n3_; have HI0 := n4_; clear n0_ n1_ n2_ n3_ n4_; (try clear hb); (try clear hb2); (try clear hk); (try clear hi); have hnb48 := NB274_266.out; have hnc48 := NB266_274.out; have hnb49 := NB274_0.out; have hnc49 := NB0_274.out; have hcz50_0 : w47.cell? ⟨gb274, 0, none⟩ = some (.string t270) := (blk_cell BK274.out 0).trans rfl; have hcz50_1 : w47.cell? ⟨gb274, 1, none⟩ = some (.int .i64 t272) := (blk_cell BK274.out 1).trans rfl; have hcz50_2 : w47.cell? ⟨gb274, 2, none⟩ = some (.int .i64 x275002_3) := (blk_cell BK274.out 2).trans rfl; have hcz50_3 : w47.cell? ⟨gb274, 3, none⟩ = some (.string x275003_3) := (blk_cell BK274.out 3).trans rfl; have hfz50_0 := blk_frozen BK274.out 0; have hfz50_1 := blk_frozen BK274.out 1; have hfz50_2 := blk_frozen BK274.out 2; have hfz50_3 := blk_frozen BK274.out 3; have hnb51 := NB266_0.out; have hnc51 := NB0_266.out; have hcz52_0 : w47.cell? ⟨gb266, 0, none⟩ = some (.string (⟨#[]⟩ : ByteArray)) := (blk_cell BK266.out 0).trans rfl; have hcz52_1 : w47.cell? ⟨gb266, 1, none⟩ = some (.int .i64 0) := (blk_cell BK266.out 1).trans rfl; have hcz52_2 : w47.cell? ⟨gb266, 2, none⟩ = some (.int .i64 0) := (blk_cell BK266.out 2).trans rfl; have hcz52_3 : w47.cell? ⟨gb266, 3, none⟩ = some (.string (⟨#[]⟩ : ByteArray)) := (blk_cell BK266.out 3).trans rfl; have hfz52_0 := blk_frozen BK266.out 0; have hfz52_1 := blk_frozen BK266.out 1; have hfz52_2 := blk_frozen BK266.out 2; have hfz52_3 := blk_frozen BK266.out 3))
        refine bodyPost_ret (results_cell_row rfl _ _ gb266 34 #[.string t270, .int .i64 t272, .int .i64 x275002_3, .string x275003_3] (0, 0) _ rfl (by (with_reducible repeat (first | refine blk_drewN ?_ _ | refine blk_drew ?_ | refine blk_alloc ?_ _)); refine blk_put (cs := #[.string t270, .int .i64 t272, .int .i64 x275002_3, .string (⟨#[]⟩ : ByteArray)]) ?_ 3 _ rfl; (with_reducible repeat (first | refine blk_drewN ?_ _ | refine blk_drew ?_ | refine blk_alloc ?_ _)); refine blk_put (cs := #[.string t270, .int .i64 t272, .int .i64 0, .string (⟨#[]⟩ : ByteArray)]) ?_ 2 _ rfl; (with_reducible repeat (first | refine blk_drewN ?_ _ | refine blk_drew ?_ | refine blk_alloc ?_ _)); refine blk_put (cs := #[.string t270, .int .i64 0, .int .i64 0, .string (⟨#[]⟩ : ByteArray)]) ?_ 1 _ rfl; (with_reducible repeat (first | refine blk_drewN ?_ _ | refine blk_drew ?_ | refine blk_alloc ?_ _)); refine blk_put (cs := #[.string (⟨#[]⟩ : ByteArray), .int .i64 0, .int .i64 0, .string (⟨#[]⟩ : ByteArray)]) ?_ 0 _ rfl; (with_reducible repeat (first | refine blk_drewN ?_ _ | refine blk_drew ?_ | refine blk_alloc ?_ _)); exact BK266.out) Tryd.underlying34 rfl (by kernel_rfl)) rfl ?_
        exact ⟨by first | rfl | (simp [errW_none, errW_some] <;> rfl) | (simp [*, errW_none, errW_some] <;> rfl) | (simp only [isEmpty_ne_, isEmpty_eq_]; rfl) | (simp [*, isEmpty_ne_, isEmpty_eq_]; done), by repeat (first | (with_reducible first | exact HI0.out | apply IsS107.alloc | apply IsS107.drewN | apply IsS107.drew | apply IsS107.set_1 | refine IsS107.far ?_ NB0_266.out _ | refine IsS107.far ?_ NB0_274.out _) | exact HI0.out), by repeat (first | (with_reducible first | exact HB.out | apply below_alloc | apply pw_below_drewN | apply below_drew1 | refine below_set ?_ (IsS107.ge HI0.out) | refine below_set ?_ GE266.out | refine below_set ?_ GE274.out) | exact HB.out), by repeat (first | (with_reducible first | exact HK.out | apply KeepBut.set_ | apply keep_drewN | apply keep_drew | apply keep_alloc | refine keep_far ?_ GW266.out _ | refine keep_far ?_ GW274.out _) | exact HK.out)⟩
end Go.Proofs.YtjnlmmjadlidlaaDoor.PRec
end
