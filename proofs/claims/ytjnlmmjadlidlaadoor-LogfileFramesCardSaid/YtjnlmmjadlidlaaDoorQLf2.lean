/-
  A part of the proof of this: LogfileFrames holds for every input: frames and heads are the same bytes as the reference says, or the same error; no condition.
-/
import Derived.StillTailTactics
import Derived.Lib.Hide
import Derived.Outline
import Derived.Test.YtjnlmmjadlidlaaDoorProg
import Derived.Lib.SlBytesConst
import Derived.Test.YtjnlmmjadlidlaaDoorQLf1
section
namespace Go.Proofs.YtjnlmmjadlidlaaDoor.PRec
open Go.RowKit Go.Proofs.YtjnlmmjadlidlaaDoorW.PrintWords Go.Proofs.YtjnlmmjadlidlaaDoorW.PrintLast Go.Proofs.YtjnlmmjadlidlaaDoorW.PrintMore
attribute [local go_sem] max2_int min2_int max_two min_two max_three min_three max_four min_four
set_option linter.unusedVariables false
set_option linter.unusedSimpArgs false
def digest_little.l0 : Nat → Int → List Int → Int → Int → Option (Int)
  | 0, _, _, _, _ => none
  | k + 1, x3, x6, x7, x8 => if x8 < x7 then (if 0 ≤ x8 then (if x8 < (x6.length : Int) then (if 0 ≤ (wrap64 (8 * x8)) then (digest_little.l0 k (Go.bits .or .u64 x3 (shl .u64 (IntKind.u64.wrap (rd x6 x8)) (wrap64 (8 * x8)))) x6 x7 (wrap64 (x8 + 1))) else (none)) else (none)) else (none)) else (some x3)
def digest_little.f (k : Nat) (l0 : List Int) : Option (Int) := digest_little.l0 k 0 l0 (l0.length : Int) 0
theorem digest_little.mono_l : ∀ k, (∀ y0 y1 y2 y3, LeO (digest_little.l0 k y0 y1 y2 y3) (digest_little.l0 (k + 1) y0 y1 y2 y3))
  | 0 => fun _ _ _ _ r h => by simp [digest_little.l0] at h
  | k + 1 => by
    have ih0 := digest_little.mono_l k
    · intro y0 y1 y2 y3
      unfold digest_little.l0
      repeat' first
      | (with_reducible exact ih0 _ _ _ _)
      | (with_reducible exact LeO.refl _)
      | (with_reducible exact LeO.none _)
      | (with_reducible refine LeO.ite ?_ ?_)
      | (with_reducible refine LeO.bind ?_ (fun _ => ?_))
      | exact ih0 _ _ _ _
      | exact LeO.none _
      | refine LeO.ite ?_ ?_
      | refine LeO.bind ?_ (fun _ => ?_)
theorem digest_little.mono : ∀ a0 k, LeO (digest_little.f k a0) (digest_little.f (k + 1) a0) := by
  intro a0 k
  have ih0 := digest_little.mono_l k
  unfold digest_little.f
  repeat' first
      | (with_reducible exact ih0 _ _ _ _)
      | (with_reducible exact LeO.refl _)
      | (with_reducible exact LeO.none _)
      | (with_reducible refine LeO.ite ?_ ?_)
      | (with_reducible refine LeO.bind ?_ (fun _ => ?_))
      | exact ih0 _ _ _ _
      | exact LeO.none _
      | refine LeO.ite ?_ ?_
      | refine LeO.bind ?_ (fun _ => ?_)
set_option maxHeartbeats 8000000 in
set_option maxRecDepth 100000 in
theorem digest_little.calls (k : Nat) (A0 : Option Addr) (c0 : Nat) (l0 : List Int) (r : Int) (w : World) (hr0 : Kd.C (Kd.int .u8) w A0 l0.length l0) (hc0 : l0.length ≤ c0) (h : digest_little.f k l0 = some r) :
    Calls Tryd.prog 173 #[.slice A0 l0.length c0] w fun e w' => e = .returned (.int .u64 r) ∧ Drawn0 w w' := by
  have HR0 := Aside0.mk hr0
  have HC0 := Aside0.mk hc0
  clear hr0 hc0
  have H : (digest_little.l0 k 0 l0 (l0.length : Int) 0) = some r := h
  clear h
  have H' := Aside0.mk H
  clear H
  go_enter Tryd.func173, Tryd.ntmps173
  go_wp2
  go_loopg [3, 8] k (fun kq v3 v8 w' => ∃ (x3_1 : Int) (x8_1 : Int), v3 = .int .u64 x3_1 ∧ v8 = .int .i64 x8_1 ∧ Aside0 (digest_little.l0 kq x3_1 l0 (l0.length : Int) x8_1 = some r) ∧ Aside0 (kq ≤ k) ∧ Drawn0 w w')
  case atStart => exact ⟨(0), (0), (by first | rfl | (simp; done) | (simp [*]; done) | (simp only [isEmpty_ne_]; done)), (by first | rfl | (simp; done) | (simp [*]; done) | (simp only [isEmpty_ne_]; done)), H', ⟨Nat.le_refl _⟩, by repeat (first | exact Drawn0.refl _ | apply Drawn0.step)⟩
  case round =>
    clear H'
    try clear c1
    obtain ⟨x3_1, x8_1, rfl, rfl, HA, HK1, ⟨m1, rfl⟩⟩ := hrel
    cases gk with
    | zero => exact absurd HA.out (by simp [digest_little.l0])
    | succ k1 =>
      have H := HA.out
      clear HA
      simp only [digest_little.l0] at H
      by_cases c2 : x8_1 < (l0.length : Int)
      · rw [if_pos c2] at H
        have c2b0 : decide (x8_1 < (l0.length : Int)) = true := decide_eq_true c2
        clear c2
        by_cases c3 : 0 ≤ x8_1
        · rw [if_pos c3] at H
          have c3b0 : decide (0 ≤ x8_1) = true := decide_eq_true c3
          clear c3
          by_cases c4 : x8_1 < (l0.length : Int)
          · rw [if_pos c4] at H
            have c4b0 : decide (x8_1 < (l0.length : Int)) = true := decide_eq_true c4
            clear c4
            obtain ⟨ji5, hji5⟩ : ∃ j_ : Int, (wrap64 (8 * x8_1)) = j_ := ⟨_, rfl⟩
            replace H : (if 0 ≤ (ji5) then (digest_little.l0 k1 (Go.bits .or .u64 x3_1 (shl .u64 (IntKind.u64.wrap (rd l0 x8_1)) (ji5))) l0 (l0.length : Int) (wrap64 (x8_1 + 1))) else (none)) = some r := by first | (rw [hji5] at H; exact H) | (simp only [hji5] at H ⊢; exact H)
            have hji5w : (IntKind.i64.wrap (8 * x8_1)) = ji5 := (i64_w _).trans hji5
            by_cases c6 : 0 ≤ (ji5)
            · rw [if_pos c6] at H
              have c6b0 := eq_true c6
              have c6b1 : decide (0 ≤ (ji5)) = true := decide_eq_true c6
              clear c6
              obtain ⟨ji7, hji7⟩ : ∃ j_ : Int, (shl .u64 (IntKind.u64.wrap (rd l0 x8_1)) (ji5)) = j_ := ⟨_, rfl⟩
              replace H : (digest_little.l0 k1 (Go.bits .or .u64 x3_1 (ji7)) l0 (l0.length : Int) (wrap64 (x8_1 + 1))) = some r := by first | (rw [hji7] at H; exact H) | (simp only [hji7] at H ⊢; exact H)
              have hji7_ : (IntKind.u64.wrap ((IntKind.u64.wrap (rd l0 x8_1)) * 2 ^ min (ji5).toNat 64)) = ji7 := hji7
              have hji7z : (ji5) ≤ 64 → (IntKind.u64.wrap ((IntKind.u64.wrap (rd l0 x8_1)) * 2 ^ (ji5).toNat)) = ji7 := shl_small hji7
              have H' := Aside0.mk H
              clear H
              have p431 : 0 ≤ (x8_1 : Int) := of_decide_eq_true (by first | (with_reducible assumption) | assumption)
              have q431 : x8_1 < (l0.length : Int) := of_decide_eq_true (by first | (with_reducible assumption) | assumption)
              obtain ⟨ad431, e431, hx431_0⟩ := Kd.at_int HR0.out x8_1 p431 q431
              cases e431
              replace p431 := eq_true p431
              replace q431 := eq_true q431
              go_wp2
              go_roundg k1
              case measure => have := HK1.out; omega
              case rel => exact ⟨(Go.bits .or .u64 x3_1 (ji7)), (wrap64 (x8_1 + 1)), (by first | rfl | (simp; done) | (simp only [← hji7] <;> (first | rfl | simp)) | (simp [*]; done)), (by first | rfl | (simp; done) | (simp [*]; done) | (simp only [isEmpty_ne_]; done)), (by first | exact H' | ((try subst hji5); (try subst hji7); exact H')), ⟨by have := HK1.out; omega⟩, by repeat (first | exact Drawn0.refl _ | apply Drawn0.step)⟩
            · rw [if_neg c6] at H
              exact absurd H (by simp)
          · rw [if_neg c4] at H
            exact absurd H (by simp)
        · rw [if_neg c3] at H
          exact absurd H (by simp)
      · rw [if_neg c2] at H
        have c2b0 : decide (x8_1 < (l0.length : Int)) = false := decide_eq_false c2
        clear c2
        obtain rfl := Option.some.inj H
        go_wp2
        go_ret
        exact ⟨by first | rfl | (simp; done) | (simp [*]; done) | (simp only [isEmpty_ne_]; done), by repeat (first | exact Drawn0.refl _ | apply Drawn0.step)⟩
end Go.Proofs.YtjnlmmjadlidlaaDoor.PRec
end
section
namespace Go.Proofs.YtjnlmmjadlidlaaDoor.PRec
open Go.RowKit Go.Proofs.YtjnlmmjadlidlaaDoorW.PrintWords Go.Proofs.YtjnlmmjadlidlaaDoorW.PrintLast Go.Proofs.YtjnlmmjadlidlaaDoorW.PrintMore
set_option linter.unusedVariables false
def wordV (v : Int × Int × Int × Int) (m : Int) : Int × Int × Int × Int :=
  let u := roundV (roundV (v.1, v.2.1, v.2.2.1, Go.bits .xor .u64 v.2.2.2 m))
  (Go.bits .xor .u64 u.1 m, u.2.1, u.2.2.1, u.2.2.2)
def Wv (g : Nat) (v : Int × Int × Int × Int) (w : World) : Prop := Wd g v.1 v.2.1 v.2.2.1 v.2.2.2 w
theorem round_v (g : Nat) (v : Int × Int × Int × Int) (w : World) (h : Wv g v w) :
    Calls Tryd.prog 174 #[.pointer (some ⟨g, 0, none⟩)] w fun e w' => e = .returned (.tuple #[]) ∧ Wv g (roundV v) w' ∧ Below g w w' := round_in g _ _ _ _ w h
set_option maxRecDepth 100000 in
set_option maxHeartbeats 8000000 in
theorem word_v (g : Nat) (v : Int × Int × Int × Int) (m : Int) (w : World) (h : Wv g v w) :
    Calls Tryd.prog 172 #[.pointer (some ⟨g, 0, none⟩), .int .u64 m] w fun e w' => e = .returned (.tuple #[]) ∧ Wv g (wordV v m) w' ∧ Below g w w' := by
  obtain ⟨v0, v1, v2, v3⟩ := v
  have hu229 := Tryd.underlying229
  have BK0 := Aside0.mk (show w.heap[g]? = some (.cells #[.int .u64 v0, .int .u64 v1, .int .u64 v2, .int .u64 v3] 229 (0, 0)) from h)
  clear h
  have z3 : w.cell? ⟨g, 3, none⟩ = some (.int .u64 v3) := (blk_cell BK0.out 3).trans rfl
  have f3 := blk_frozen BK0.out 3
  go_enter Tryd.func172, Tryd.ntmps172
  go_wp2_with fail
  go_still_tail 8, (by kernel_rfl)
  change wpList _ _ _ _ _ w.drew
  have bk_ := Aside0.mk (blk_drew BK0.out)
  have hb_ := Aside0.mk (below_drew1 (Below.refl g w))
  clear z3 f3
  generalize w.drew = u0 at bk_ hb_ ⊢
  have z3 : u0.cell? ⟨g, 3, none⟩ = some (.int .u64 v3) := (blk_cell bk_.out 3).trans rfl
  have f3 := blk_frozen bk_.out 3
  go_wp2_with fail
  clear z3 f3
  have BK1 := Aside0.mk (show Wv g (v0, v1, v2, Go.bits .xor .u64 v3 m) _ from blk_put (cs' := #[.int .u64 v0, .int .u64 v1, .int .u64 v2, .int .u64 (Go.bits .xor .u64 v3 m)]) bk_.out 3 (.int .u64 (Go.bits .xor .u64 v3 m)) rfl)
  have HB1 := Aside0.mk (hb_.out.setCell (p := ⟨g, 3, none⟩) (Nat.le_refl g) (.int .u64 (Go.bits .xor .u64 v3 m)))
  clear bk_ hb_
  generalize u0.setCell ⟨g, 3, none⟩ (.int .u64 (Go.bits .xor .u64 v3 m)) = w1 at BK1 HB1 ⊢
  refine (round_v g _ w1 BK1.out).mono ?_
  rintro e w2 ⟨rfl, bk, hb⟩
  have BK2 := Aside0.mk bk
  have HB2 := Aside0.mk (HB1.out.trans hb)
  clear bk hb BK1 HB1
  go_wp2_with fail
  refine (round_v g _ w2 BK2.out).mono ?_
  rintro e w3 ⟨rfl, bk, hb⟩
  have BK3 := Aside0.mk bk
  have HB3 := Aside0.mk (HB2.out.trans hb)
  clear bk hb BK2 HB2
  obtain ⟨u, hu⟩ : ∃ u, u = roundV (roundV (v0, v1, v2, Go.bits .xor .u64 v3 m)) := ⟨_, rfl⟩
  rw [← hu] at BK3
  have HU := Lib.hid hu
  clear hu
  obtain ⟨n0, n1, n2, n3⟩ := u
  have BK4 := Aside0.mk (show w3.heap[g]? = some (.cells #[.int .u64 n0, .int .u64 n1, .int .u64 n2, .int .u64 n3] 229 (0, 0)) from BK3.out)
  clear BK3
  have z0 : w3.cell? ⟨g, 0, none⟩ = some (.int .u64 n0) := (blk_cell BK4.out 0).trans rfl
  have f0 := blk_frozen BK4.out 0
  go_wp2_with fail
  go_still_tail 8, (by kernel_rfl)
  change wpList _ _ _ _ _ w3.drew
  have bk_ := Aside0.mk (blk_drew BK4.out)
  have hb_ := Aside0.mk (below_drew1 HB3.out)
  clear z0 f0
  generalize w3.drew = u1 at bk_ hb_ ⊢
  have z0 : u1.cell? ⟨g, 0, none⟩ = some (.int .u64 n0) := (blk_cell bk_.out 0).trans rfl
  have f0 := blk_frozen bk_.out 0
  go_wp2
  first | go_end0 | ((try simp only [Exit.inBlock, Exit.then]); refine bodyPost_ret (results_none rfl _ _ _) rfl ?_)
  refine ⟨rfl, ?_, hb_.out.setCell (p := ⟨g, 0, none⟩) (Nat.le_refl g) (.int .u64 (Go.bits .xor .u64 n0 m))⟩
  have e : wordV (v0, v1, v2, v3) m = (Go.bits .xor .u64 n0 m, n1, n2, n3) := by
    unfold wordV
    show (let u := roundV (roundV (v0, v1, v2, Go.bits .xor .u64 v3 m)); (Go.bits .xor .u64 u.1 m, u.2.1, u.2.2.1, u.2.2.2)) = _
    rw [← HU.out]
  rw [e]
  exact blk_put (cs' := #[.int .u64 (Go.bits .xor .u64 n0 m), .int .u64 n1, .int .u64 n2, .int .u64 n3]) bk_.out 0 (.int .u64 (Go.bits .xor .u64 n0 m)) rfl
def leAcc : Nat → List Int → Int → Int
  | _, [], m => m
  | i, x :: r, m => leAcc (i + 1) r (Go.bits .or .u64 m (shl .u64 x (8 * (i : Int))))
def leNum (l : List Int) : Int := leAcc 0 l 0
def Bytes (l : List Int) : Prop := ∀ x ∈ l, 0 ≤ x ∧ x ≤ 255
theorem le_w64 {x : Int} (h0 : 0 ≤ x) (h1 : x ≤ 1000000) : wrap64 x = x := by unfold wrap64; omega
theorem le_u64 {x : Int} (h0 : 0 ≤ x) (h1 : x ≤ 255) : IntKind.u64.wrap x = x := by
  have e : IntKind.u64.wrap x = x % 18446744073709551616 := rfl
  rw [e]; omega
theorem drop_rdI (l : List Int) (i : Nat) (h : i < l.length) : l.drop i = rd l (i : Int) :: l.drop (i + 1) := by
  unfold rd
  rw [Int.toNat_natCast, List.getD_eq_getElem?_getD, List.getElem?_eq_getElem h, Option.getD_some]
  exact List.drop_eq_getElem_cons h
theorem little_l0 (l : List Int) (hl : l.length ≤ 1000) (hb : Bytes l) (d : Nat) : ∀ (k i : Nat) (m : Int), i + d = l.length → d < k → digest_little.l0 k m l (l.length : Int) (i : Int) = some (leAcc i (l.drop i) m) := by
  induction d with
  | zero =>
    intro k i m hi hk
    obtain ⟨k, rfl⟩ : ∃ q, k = q + 1 := ⟨k - 1, by omega⟩
    simp only [digest_little.l0]
    rw [if_neg (by omega), List.drop_of_length_le (by omega)]
    rfl
  | succ d ih =>
    intro k i m hi hk
    obtain ⟨k, rfl⟩ : ∃ q, k = q + 1 := ⟨k - 1, by omega⟩
    have hx : 0 ≤ rd l (i : Int) ∧ rd l (i : Int) ≤ 255 := hb _ (List.mem_of_mem_drop (i := i) (by rw [drop_rdI l i (by omega)]; exact List.mem_cons_self ..))
    simp only [digest_little.l0]
    rw [le_w64 (x := 8 * (i : Int)) (by omega) (by omega), if_pos (by omega), if_pos (by omega), if_pos (by omega), if_pos (by omega), le_u64 hx.1 hx.2, le_w64 (x := (i : Int) + 1) (by omega) (by omega), drop_rdI l i (by omega)]
    exact ih k (i + 1) _ (by omega) (by omega)
theorem little_in (l : List Int) (hl : l.length ≤ 1000) (hb : Bytes l) (A : Option Addr) (c : Nat) (w : World) (hr : Kd.C (Kd.int .u8) w A l.length l) (hc : l.length ≤ c) :
    Calls Tryd.prog 173 #[.slice A l.length c] w fun e w' => e = .returned (.int .u64 (leNum l)) ∧ Drawn0 w w' := by
  have h := little_l0 l hl hb l.length (l.length + 1) 0 0 (by omega) (by omega)
  rw [List.drop_zero] at h
  exact digest_little.calls (l.length + 1) A c l (leNum l) w hr hc h
def finV (n : Int) (l : List Int) (v : Int × Int × Int × Int) : Int :=
  let u := wordV v (Go.bits .or .u64 (leNum l) n)
  let x := iterV 4 (u.1, u.2.1, Go.bits .xor .u64 u.2.2.1 255, u.2.2.2)
  Go.bits .xor .u64 (Go.bits .xor .u64 (Go.bits .xor .u64 x.1 x.2.1) x.2.2.1) x.2.2.2
def sumFrom (n : Int) : Nat → List Int → Int × Int × Int × Int → Int
  | 0, l, v => finV n l v
  | d + 1, l, v => sumFrom n d (l.drop 8) (wordV v (leNum (l.take 8)))
def initV (x0 x1 : Int) : Int × Int × Int × Int := (Go.bits .xor .u64 x0 8317987319222330741, Go.bits .xor .u64 x1 7237128888997146477, Go.bits .xor .u64 x0 7816392313619706465, Go.bits .xor .u64 x1 8387220255154660723)
def lenWord (n : Int) : Int := n % 256 * 72057594037927936
def sumV (x0 x1 : Int) (l : List Int) : Int := sumFrom (lenWord l.length) (l.length / 8) l (initV x0 x1)
set_option maxRecDepth 100000 in
set_option maxHeartbeats 8000000 in
theorem sum_in (x0 x1 : Int) (A : Option Addr) (c : Nat) (l : List Int) (w : World) (hr : Kd.C (Kd.int .u8) w A l.length l) (hc : l.length ≤ c) (hb : Bytes l) (hl : l.length ≤ 140737488355328) :
    Calls Tryd.prog 152 #[.agg #[.int .u64 x0, .int .u64 x1], .slice A l.length c] w fun e w' => e = .returned (.int .u64 (sumV x0 x1 l)) ∧ Below w.heap.size w w' := by
  have hu1 := Tryd.underlying208
  have hu2 := Tryd.underlying229
  have HR := Aside0.mk hr
  have HC := Aside0.mk hc
  have HBY := Aside0.mk hb
  clear hr hc hb
  obtain ⟨T, hT⟩ : ∃ T : Int, T = sumV x0 x1 l := ⟨_, rfl⟩
  rw [← hT]
  have HT := Lib.hid hT
  clear hT
  go_enter Tryd.func152, Tryd.ntmps152
  go_wp2_with fail
  obtain ⟨o1, ho1⟩ : ∃ o : Obj, o = .cells #[.int .u64 x0, .int .u64 x1] 208 := ⟨_, rfl⟩
  obtain ⟨o2, ho2⟩ : ∃ o : Obj, o = .cells #[.int .u64 (Go.bits .xor .u64 x0 8317987319222330741), .int .u64 (Go.bits .xor .u64 x1 7237128888997146477), .int .u64 (Go.bits .xor .u64 x0 7816392313619706465), .int .u64 (Go.bits .xor .u64 x1 8387220255154660723)] 229 := ⟨_, rfl⟩
  have B0 := Aside0.mk (show Wv (w.heap.size + 1) (initV x0 x1) ((w.alloc o1).alloc o2) from by have hb_ := blk_new (w.alloc o1) o2; rw [show (w.alloc o1).heap.size = w.heap.size + 1 from by simp] at hb_; rw [ho2] at hb_ ⊢; exact hb_)
  have D0 := Aside0.mk (show Below w.heap.size w ((w.alloc o1).alloc o2) from below_alloc (below_alloc (Below.refl _ _) _) _)
  rw [← ho1, ← ho2]
  have HO1 := Lib.hid ho1
  have HO2 := Lib.hid ho2
  clear ho1 ho2
  have hT := HT.out
  have E0 := Aside0.mk (show sumFrom (lenWord l.length) ((l.length - 0) / 8) (l.drop 0) (initV x0 x1) = T from by rw [hT]; rfl)
  clear hT
  generalize (w.alloc o1).alloc o2 = w1 at B0 D0 ⊢
  go_loopw [6] (fun i wr => ∃ (p : Nat) (v : Int × Int × Int × Int), p ≤ l.length ∧ i = .int .i64 (p : Int) ∧ Aside0 (sumFrom (lenWord l.length) ((l.length - p) / 8) (l.drop p) v = T) ∧ Aside0 (Wv (w.heap.size + 1) v wr) ∧ Aside0 (Below w.heap.size w wr)) (fun i _ => l.length - (intOf i).toNat)
  case atStart => exact ⟨0, initV x0 x1, by omega, rfl, E0, B0, D0⟩
  case round =>
    clear B0 D0 E0
    obtain ⟨p, v, hj, rfl, HE, BK, HB⟩ := hrel
    have hRw := Kd.C_below HR.out HB.out
    obtain ⟨i5, hi5, _, hsz5, _⟩ := info_parts info5
    by_cases hlt : p + 8 ≤ l.length
    · have h8 : decide ((8 : Int) ≤ (l.length : Int) - (p : Int)) = true := decide_eq_true (by omega)
      have hcut := cut_mid (P := Tryd.prog) 22 5 .i64 .i64 Tryd.underlying22 hi5 1 hsz5 A l.length c (p : Int) ((p : Int) + 8) (by omega) (by omega) (by omega) HC.out
      have hr1 := Kd.C_mid (lo := p) (hi := p + 8) (c := c) hRw (by omega) hlt HC.out
      obtain ⟨b, hb⟩ : ∃ b, b = (l.take (p + 8)).drop p := ⟨_, rfl⟩
      have hbl : b.length = 8 := by rw [hb, List.length_drop, List.length_take]; omega
      have hb8 : b = (l.drop p).take 8 := by rw [hb, List.drop_take]; congr 1; omega
      obtain ⟨A1, hA1⟩ : ∃ A1, A1 = (if c = p then A else A.map (·.add (p * 1))) := ⟨_, rfl⟩
      obtain ⟨c1, hc1⟩ : ∃ c1, c1 = c - p := ⟨_, rfl⟩
      rw [show ((p : Int)).toNat = p from by omega, show ((p : Int) + 8).toNat - p = b.length from by omega, ← hA1, ← hc1] at hcut
      rw [← hb] at hr1
      have HR1 := Aside0.mk (show Kd.C (Kd.int .u8) wr A1 b.length b from by rw [hA1]; exact hr1)
      have HC1 := Aside0.mk (show b.length ≤ c1 from by have := HC.out; omega)
      have HBY1 := Aside0.mk (show Bytes b from fun x hx => HBY.out x (List.mem_of_mem_drop (List.mem_of_mem_take (by rw [hb8] at hx; exact hx))))
      have HBL := Lib.hid hbl
      have HB8 := Lib.hid hb8
      clear hr1 hRw hb hbl hb8 hA1 hc1 hsz5 hi5
      go_wp2_with fail
      refine (little_in b (by have := HBL.out; omega) HBY1.out A1 c1 wr HR1.out HC1.out).mono ?_
      rintro e w' ⟨rfl, ⟨nd, rfl⟩⟩
      have bk2 := Aside0.mk (show Wv (w.heap.size + 1) v (wr.drewN nd) from blk_drewN BK.out nd)
      have hb2 := Aside0.mk (pw_below_drewN HB.out nd)
      clear HR1 HC1 HBY1 BK HB hcut
      generalize wr.drewN nd = wr2 at bk2 hb2 ⊢
      go_wp2_with fail
      refine (word_v (w.heap.size + 1) v (leNum b) wr2 bk2.out).mono ?_
      rintro e w3 ⟨rfl, bk, hb⟩
      have BK3 := Aside0.mk bk
      have HB3 := Aside0.mk (hb2.out.trans (hb.mono (Nat.le_succ _)))
      clear bk hb bk2 hb2
      go_wp2_with fail
      go_roundw
      case measure => simp [intOf]; omega
      case rel =>
        refine ⟨p + 8, wordV v (leNum b), hlt, by go_num, ⟨?_⟩, BK3, HB3⟩
        have h := HE.out
        obtain ⟨q, hq⟩ : ∃ q, (l.length - p) / 8 = q + 1 := ⟨(l.length - p) / 8 - 1, by omega⟩
        rw [hq] at h
        rw [show (l.length - (p + 8)) / 8 = q from by omega, HB8.out, ← List.drop_drop]
        exact h
    · have h8 : decide ((8 : Int) ≤ (l.length : Int) - (p : Int)) = false := decide_eq_false (by omega)
      have hcut := cut_from (P := Tryd.prog) 22 5 .i64 Tryd.underlying22 hi5 1 hsz5 A l.length c (p : Int) (by omega) (by omega)
      have hr1 := Kd.C_drop (m := p) (c := c) hRw hj HC.out
      obtain ⟨b, hb⟩ : ∃ b, b = l.drop p := ⟨_, rfl⟩
      have hbl : b.length = l.length - p := by rw [hb, List.length_drop]
      obtain ⟨A1, hA1⟩ : ∃ A1, A1 = (if c = p then A else A.map (·.add (p * 1))) := ⟨_, rfl⟩
      obtain ⟨c1, hc1⟩ : ∃ c1, c1 = c - p := ⟨_, rfl⟩
      rw [show ((p : Int)).toNat = p from by omega, ← hbl, ← hA1, ← hc1] at hcut
      rw [← hb] at hr1
      have HR1 := Aside0.mk (show Kd.C (Kd.int .u8) wr A1 b.length b from by rw [hA1]; exact hr1)
      have HC1 := Aside0.mk (show b.length ≤ c1 from by have := HC.out; omega)
      have HBY1 := Aside0.mk (show Bytes b from fun x hx => HBY.out x (List.mem_of_mem_drop (by rw [hb] at hx; exact hx)))
      have HBL := Lib.hid hbl
      have HB8 := Lib.hid hb
      clear hr1 hRw hb hbl hA1 hc1 hsz5 hi5
      go_wp2_with fail
      refine (little_in b (by have := HBL.out; omega) HBY1.out A1 c1 wr HR1.out HC1.out).mono ?_
      rintro e w' ⟨rfl, ⟨nd, rfl⟩⟩
      have bk2 := Aside0.mk (show Wv (w.heap.size + 1) v (wr.drewN nd) from blk_drewN BK.out nd)
      have hb2 := Aside0.mk (pw_below_drewN HB.out nd)
      clear HR1 HC1 HBY1 BK HB hcut
      generalize wr.drewN nd = wr2 at bk2 hb2 ⊢
      go_wp2_with fail
      refine (word_v (w.heap.size + 1) v (Go.bits .or .u64 (leNum b) (lenWord l.length)) wr2 bk2.out).mono ?_
      rintro e w3 ⟨rfl, bk, hb⟩
      have hb3 := Aside0.mk (hb2.out.trans (hb.mono (Nat.le_succ _)))
      obtain ⟨u, hu⟩ : ∃ u, u = wordV v (Go.bits .or .u64 (leNum b) (lenWord l.length)) := ⟨_, rfl⟩
      rw [← hu] at bk
      have HU := Lib.hid hu
      clear hu
      obtain ⟨u0, u1, u2, u3⟩ := u
      have bk3 := Aside0.mk (show w3.heap[w.heap.size + 1]? = some (.cells #[.int .u64 u0, .int .u64 u1, .int .u64 u2, .int .u64 u3] 229 (0, 0)) from bk)
      clear bk hb bk2 hb2
      have z2 : w3.cell? ⟨w.heap.size + 1, 2, none⟩ = some (.int .u64 u2) := (blk_cell bk3.out 2).trans rfl
      have f2 := blk_frozen bk3.out 2
      go_wp2_with fail
      clear z2 f2
      have BK4 := Aside0.mk (show Wv (w.heap.size + 1) (u0, u1, Go.bits .xor .u64 u2 255, u3) _ from blk_put (cs' := #[.int .u64 u0, .int .u64 u1, .int .u64 (Go.bits .xor .u64 u2 255), .int .u64 u3]) bk3.out 2 (.int .u64 (Go.bits .xor .u64 u2 255)) rfl)
      have HB4 := Aside0.mk (hb3.out.setCell (p := ⟨w.heap.size + 1, 2, none⟩) (Nat.le_succ _) (.int .u64 (Go.bits .xor .u64 u2 255)))
      clear bk3 hb3
      generalize w3.setCell ⟨w.heap.size + 1, 2, none⟩ (.int .u64 (Go.bits .xor .u64 u2 255)) = w4 at BK4 HB4 ⊢
      have E1 := Aside0.mk (show iterV 4 (u0, u1, Go.bits .xor .u64 u2 255, u3) = iterV 4 (u0, u1, Go.bits .xor .u64 u2 255, u3) from rfl)
      go_loopw [49] (fun i wr => ∃ (m : Nat) (y : Int × Int × Int × Int), m ≤ 4 ∧ i = .int .i64 (m : Int) ∧ Aside0 (iterV (4 - m) y = iterV 4 (u0, u1, Go.bits .xor .u64 u2 255, u3)) ∧ Aside0 (Wv (w.heap.size + 1) y wr) ∧ Aside0 (Below w.heap.size w wr)) (fun i _ => 4 - (intOf i).toNat)
      case atStart => exact ⟨0, _, by omega, rfl, E1, BK4, HB4⟩
      case round =>
        clear E1 BK4 HB4
        obtain ⟨m, y, hm, rfl, HE2, BK, HB⟩ := hrel
        by_cases hlt : m < 4
        · go_wp2_with fail
          refine (round_v (w.heap.size + 1) y _ BK.out).mono ?_
          rintro e w5 ⟨rfl, bk, hb⟩
          have BK5 := Aside0.mk bk
          have HB5 := Aside0.mk (HB.out.trans (hb.mono (Nat.le_succ _)))
          clear bk hb BK HB
          go_wp2_with fail
          go_roundw
          case measure => simp [intOf]; omega
          case rel =>
            refine ⟨m + 1, roundV y, by omega, by go_num, ⟨?_⟩, BK5, HB5⟩
            rw [← HE2.out, show 4 - m = (4 - (m + 1)) + 1 from by omega]
            rfl
        · obtain rfl : m = 4 := by omega
          obtain ⟨y0, y1, y2, y3⟩ := y
          have bk6 := Aside0.mk (show wr.heap[w.heap.size + 1]? = some (.cells #[.int .u64 y0, .int .u64 y1, .int .u64 y2, .int .u64 y3] 229 (0, 0)) from BK.out)
          clear BK
          have z0 : wr.cell? ⟨w.heap.size + 1, 0, none⟩ = some (.int .u64 y0) := (blk_cell bk6.out 0).trans rfl
          have z1 : wr.cell? ⟨w.heap.size + 1, 1, none⟩ = some (.int .u64 y1) := (blk_cell bk6.out 1).trans rfl
          have z2 : wr.cell? ⟨w.heap.size + 1, 2, none⟩ = some (.int .u64 y2) := (blk_cell bk6.out 2).trans rfl
          have z3 : wr.cell? ⟨w.heap.size + 1, 3, none⟩ = some (.int .u64 y3) := (blk_cell bk6.out 3).trans rfl
          go_wp2
          go_ret
          refine ⟨?_, HB.out⟩
          have h := HE.out
          rw [show (l.length - p) / 8 = 0 from by omega, ← HB8.out] at h
          have hy : iterV 4 (u0, u1, Go.bits .xor .u64 u2 255, u3) = (y0, y1, y2, y3) := HE2.out.symm
          have h2 : finV (lenWord l.length) b v = T := h
          unfold finV at h2
          rw [← HU.out] at h2
          simp only [hy] at h2
          rw [← h2]
          rfl
def digest_sum.f (a0_0 a0_1 : Int) (l1 : List Int) : Option Int := if (∀ x ∈ l1, 0 ≤ x ∧ x ≤ 255) ∧ l1.length ≤ 140737488355328 then some (sumV a0_0 a0_1 l1) else none
theorem digest_sum.calls (a0_0 a0_1 : Int) (A1 : Option Addr) (c1 : Nat) (l1 : List Int) (r : Int) (w : World) (hr1 : Kd.C (Kd.int .u8) w A1 l1.length l1) (hc1 : l1.length ≤ c1) (h : digest_sum.f a0_0 a0_1 l1 = some r) :
    Calls Tryd.prog 152 #[.agg #[.int .u64 a0_0, .int .u64 a0_1], .slice A1 l1.length c1] w fun e w' => e = .returned (.int .u64 r) ∧ Below w.heap.size w w' := by
  unfold digest_sum.f at h
  split at h
  · rename_i hb
    obtain rfl := Option.some.inj h
    exact sum_in a0_0 a0_1 A1 c1 l1 w hr1 hc1 hb.1 hb.2
  · cases h
end Go.Proofs.YtjnlmmjadlidlaaDoor.PRec
end
section
namespace Go.Proofs.YtjnlmmjadlidlaaDoor.PRec
open Go.RowKit Go.Proofs.YtjnlmmjadlidlaaDoorW.PrintWords Go.Proofs.YtjnlmmjadlidlaaDoorW.PrintLast Go.Proofs.YtjnlmmjadlidlaaDoorW.PrintMore
attribute [local go_sem] max2_int min2_int max_two min_two max_three min_three max_four min_four
set_option linter.unusedVariables false
set_option linter.unusedSimpArgs false
def digest_Sum.f (a0_0 : Int) (a0_1 : Int) (l1 : List Int) : Option (Int) := (digest_sum.f a0_0 a0_1 l1).bind fun t433 => (some t433)
set_option maxHeartbeats 8000000 in
set_option maxRecDepth 100000 in
theorem digest_Sum.calls (a0_0 : Int) (a0_1 : Int) (A1 : Option Addr) (c1 : Nat) (l1 : List Int) (r : Int) (w : World) (hr1 : Kd.C (Kd.int .u8) w A1 l1.length l1) (hc1 : l1.length ≤ c1) (h : digest_Sum.f a0_0 a0_1 l1 = some r) :
    Calls Tryd.prog 124 #[.agg #[.int .u64 a0_0, .int .u64 a0_1], .slice A1 l1.length c1] w fun e w' => e = .returned (.int .u64 r) ∧ Below w.heap.size w w' := by
  have hu69 := Tryd.underlying69
  have hu208 := Tryd.underlying208
  have HR1 := Aside0.mk hr1
  have HC1 := Aside0.mk hc1
  clear hr1 hc1
  have HB := Aside0.mk (Below.refl w.heap.size w)
  have H : ((digest_sum.f a0_0 a0_1 l1).bind fun t433 => (some t433)) = some r := h
  clear h
  replace H := Option.bind_eq_some_iff.mp H
  obtain ⟨t433, A30, H⟩ := H
  replace H : (some t433) = some r := H
  have A3 := Aside0.mk A30
  clear A30
  obtain rfl := Option.some.inj H
  go_enter Tryd.func124, Tryd.ntmps124
  go_wp2_with (first | ((with_reducible refine gate_dst (N := 2) rfl ?_); refine box_event ?hg (N := 2) ?hd (cs := #[.int .u64 a0_0, .int .u64 a0_1]) (t := 69) ?hr ?_; (case hd => rfl); (case hg => rfl); (case hr => first | (go_simp; done) | (go_simp; rfl)); intro gb432 hg w4 hbox hb; have n0_ := Aside0.mk (below_step (by repeat (first | (with_reducible first | exact HB.out | apply below_alloc | apply pw_below_drewN | apply below_drew1) | exact HB.out)) hb); have n1_ := Aside0.mk (hbox); have n2_ := Aside0.mk ((by rw [hg]; exact (below_size (by repeat (first | (with_reducible first | exact HB.out | apply below_alloc | apply pw_below_drewN | apply below_drew1) | exact HB.out))) : w.heap.size ≤ gb432)); have n3_ := Aside0.mk ((by rw [hg]; exact (below_size (by repeat (first | (with_reducible first | exact HB.out | apply below_alloc | apply pw_below_drewN | apply below_drew1) | exact HB.out))) : w.heap.size ≤ gb432)); clear HB; have HB := n0_; have BK432 := n1_; have GW432 := n2_; have GE432 := n3_; clear n0_ n1_ n2_ n3_; clear hb hbox hg; have hcz5_0 : w4.cell? ⟨gb432, 0, none⟩ = some (.int .u64 a0_0) := (blk_cell BK432.out 0).trans rfl; have hcz5_1 : w4.cell? ⟨gb432, 1, none⟩ = some (.int .u64 a0_1) := (blk_cell BK432.out 1).trans rfl; have hfz5_0 := blk_frozen BK432.out 0; have hfz5_1 := blk_frozen BK432.out 1) | ((with_reducible refine gate_callee (f := 152) rfl ?_); refine goesL_ (some 11) rfl rfl Tryd.func152 (by kernel_rfl) rfl #[.agg #[.int .u64 a0_0, .int .u64 a0_1], .slice A1 l1.length c1] rfl (by (try simp only [List.map_toArray, List.map_cons, List.map_nil]); first | done | rfl | (simp only [List.length_drop, List.length_take]; rfl)) ?_; (with_reducible refine (digest_sum.calls a0_0 a0_1 _ _ l1 t433 _ ?side1 ?side2 A3.out).mono ?_); (case side1 => repeat (first | exact (Kd.C_below HR1.out HB.out) | (with_reducible refine Kd.C_alloc ?_ _) | (with_reducible refine Kd.C_drewN ?_ _) | (with_reducible refine Kd.C_drew ?_))); (case side2 => exact HC1.out); rintro e w6 ⟨rfl, hb⟩; refine ⟨_, rfl, ?_⟩; have n0_ := Aside0.mk (blk_below (g := gb432) (o := .cells #[.int .u64 a0_0, .int .u64 a0_1] 69 (0, 0)) (by (with_reducible repeat (first | refine blk_drewN ?_ _ | refine blk_drew ?_ | refine blk_alloc ?_ _)); exact BK432.out) hb); have n1_ := Aside0.mk (below_step (by repeat (first | (with_reducible first | exact HB.out | apply below_alloc | apply pw_below_drewN | apply below_drew1 | refine below_set ?_ GE432.out) | exact HB.out)) hb); clear BK432; clear HB; have BK432 := n0_; have HB := n1_; clear n0_ n1_; (try clear hb); (try clear hb2); (try clear hk); (try clear hi)))
  go_ret
  exact ⟨by first | rfl | (simp [errW_none, errW_some] <;> rfl) | (simp [*, errW_none, errW_some] <;> rfl) | (simp only [isEmpty_ne_, isEmpty_eq_]; rfl) | (simp [*, isEmpty_ne_, isEmpty_eq_]; done), by repeat (first | (with_reducible first | exact HB.out | apply below_alloc | apply pw_below_drewN | apply below_drew1 | refine below_set ?_ GE432.out) | exact HB.out)⟩
def digest_Chain.f (k : Nat) (a0_0 : Int) (a0_1 : Int) (a1 : Int) (l2 : List Int) : Option (Int) := (digest_Put.f k a1).bind fun t435 => (if t435.length + l2.length < 140737488355328 then ((digest_Sum.f a0_0 a0_1 (t435 ++ l2)).bind fun t441 => (some t441)) else (none))
theorem digest_Chain.mono : ∀ a0 a1 a2 a3 k, LeO (digest_Chain.f k a0 a1 a2 a3) (digest_Chain.f (k + 1) a0 a1 a2 a3) := by
  intro a0 a1 a2 a3 k
  unfold digest_Chain.f
  repeat' first
      | (with_reducible exact digest_Put.mono _ _)
      | (with_reducible exact LeO.refl _)
      | (with_reducible exact LeO.none _)
      | (with_reducible refine LeO.ite ?_ ?_)
      | (with_reducible refine LeO.bind ?_ (fun _ => ?_))
      | exact digest_Put.mono _ _
      | exact LeO.none _
      | refine LeO.ite ?_ ?_
      | refine LeO.bind ?_ (fun _ => ?_)
set_option maxHeartbeats 8000000 in
set_option maxRecDepth 100000 in
theorem digest_Chain.calls (k : Nat) (a0_0 : Int) (a0_1 : Int) (a1 : Int) (A2 : Option Addr) (c2 : Nat) (l2 : List Int) (r : Int) (w : World) (hr2 : Kd.C (Kd.int .u8) w A2 l2.length l2) (hc2 : l2.length ≤ c2) (h : digest_Chain.f k a0_0 a0_1 a1 l2 = some r) :
    Calls Tryd.prog 85 #[.agg #[.int .u64 a0_0, .int .u64 a0_1], .int .u64 a1, .slice A2 l2.length c2] w fun e w' => e = .returned (.int .u64 r) ∧ Below w.heap.size w w' := by
  have hu69 := Tryd.underlying69
  have HR2 := Aside0.mk hr2
  have HC2 := Aside0.mk hc2
  clear hr2 hc2
  have HB := Aside0.mk (Below.refl w.heap.size w)
  have H : ((digest_Put.f k a1).bind fun t435 => (if t435.length + l2.length < 140737488355328 then ((digest_Sum.f a0_0 a0_1 (t435 ++ l2)).bind fun t441 => (some t441)) else (none))) = some r := h
  clear h
  replace H := Option.bind_eq_some_iff.mp H
  obtain ⟨t435, A40, H⟩ := H
  replace H : (if t435.length + l2.length < 140737488355328 then ((digest_Sum.f a0_0 a0_1 (t435 ++ l2)).bind fun t441 => (some t441)) else (none)) = some r := H
  have A4 := Aside0.mk A40
  clear A40
  by_cases c5 : t435.length + l2.length < 140737488355328
  · rw [if_pos c5] at H
    have LMc5 := Aside0.mk c5
    clear c5
    obtain ⟨y438, hy438⟩ : ∃ y_ : List Int, y_ = (t435 ++ l2) := ⟨_, rfl⟩
    replace H : ((digest_Sum.f a0_0 a0_1 y438).bind fun t441 => (some t441)) = some r := by first | (rw [hy438]; with_reducible exact H) | (have H2_ := (Option.bind_some _ _).symm.trans H; rw [hy438]; with_reducible exact H2_) | (have H2_ := (Option.bind_some _ _).symm.trans H; with_reducible exact H2_) | with_reducible exact H | (rw [hy438]; exact H) | exact H
    have Ny438 := Aside0.mk hy438
    clear hy438
    replace H := Option.bind_eq_some_iff.mp H
    obtain ⟨t441, A60, H⟩ := H
    replace H : (some t441) = some r := H
    have A6 := Aside0.mk A60
    clear A60
    obtain rfl := Option.some.inj H
    go_enter Tryd.func85, Tryd.ntmps85
    try go_wp2_with (first | ((with_reducible refine gate_dst (N := 3) rfl ?_); refine box_event ?hg (N := 3) ?hd (cs := #[.int .u64 a0_0, .int .u64 a0_1]) (t := 69) ?hr ?_; (case hd => rfl); (case hg => rfl); (case hr => first | (go_simp; done) | (go_simp; rfl)); intro gb434 hg w7 hbox hb; have n0_ := Aside0.mk (below_step (by repeat (first | (with_reducible first | exact HB.out | apply below_alloc | apply pw_below_drewN | apply below_drew1) | exact HB.out)) hb); have n1_ := Aside0.mk (hbox); have n2_ := Aside0.mk ((by rw [hg]; exact (below_size (by repeat (first | (with_reducible first | exact HB.out | apply below_alloc | apply pw_below_drewN | apply below_drew1) | exact HB.out))) : w.heap.size ≤ gb434)); have n3_ := Aside0.mk ((by rw [hg]; exact (below_size (by repeat (first | (with_reducible first | exact HB.out | apply below_alloc | apply pw_below_drewN | apply below_drew1) | exact HB.out))) : w.heap.size ≤ gb434)); clear HB; have HB := n0_; have BK434 := n1_; have GW434 := n2_; have GE434 := n3_; clear n0_ n1_ n2_ n3_; clear hb hbox hg))
    have n0_ := Aside0.mk (blk_drew BK434.out)
    have n1_ := Aside0.mk (below_drew1 HB.out)
    clear BK434
    clear HB
    have BK434 := n0_
    have HB := n1_
    clear n0_ n1_
    refine start_ (n := 7) (S := fun w' => w'.cell? ⟨gb434, 0, none⟩ = some (.int .u64 a0_0) ∧ w'.cell? ⟨gb434, 1, none⟩ = some (.int .u64 a0_1)) (ds := []) #[false, false, false, false, false, false, false] (by kernel_rfl) rfl rfl ⟨(blk_cell BK434.out 0).trans rfl, (blk_cell BK434.out 1).trans rfl⟩ (fun hHeld => ?_)
    generalize w7.drew = w8 at BK434 HB hHeld ⊢
    refine pure_ (i := 1) (N := some 8) (v := ?_) (a' := ?_) #[false, true, false, false, false, false, false] rfl rfl (by kernel_rfl) (fun _ _ _ h => h) (Or.inl ⟨by rfl, ?_⟩) ?_ ?_
    rotate_left
    · intro w'
      go_simp
      with_reducible rfl
    rotate_left
    · simp only [Act.put, List.setIfInBounds_toArray, List.set_cons_zero, List.set_cons_succ, i64_w, i32_w]
      rfl
    refine pure_ (i := 3) (N := some 10) (v := ?_) (a' := ?_) #[false, true, false, true, false, false, false] rfl rfl (by kernel_rfl) (fun _ _ _ h => h) (Or.inl ⟨by rfl, ?_⟩) ?_ ?_
    rotate_left
    · intro w'
      go_simp
      with_reducible rfl
    rotate_left
    · simp only [Act.put, List.setIfInBounds_toArray, List.set_cons_zero, List.set_cons_succ, i64_w, i32_w]
      rfl
    refine take_ (i := 0) (N := some 7) (v := ?_) (a' := ?_) #[true, true, false, true, false, false, false] rfl rfl (by kernel_rfl) (fun _ _ _ h => h) (Or.inl ⟨by rfl, ?_⟩) hHeld ?_ ?_
    rotate_left
    · rintro w' ⟨s0, s1⟩
      go_simp
      with_reducible rfl
    rotate_left
    · simp only [Act.put, List.setIfInBounds_toArray, List.set_cons_zero, List.set_cons_succ, i64_w, i32_w]
      rfl
    refine one_ (i := 2) (N := some 9) #[true, true, true, true, false, false, false] rfl rfl (by kernel_rfl) (by decide) (fun K hK => ?_)
    refine goes_ Tryd.func86 (by kernel_rfl) rfl #[.int .u64 a1] (by rfl) rfl rfl (by (try simp only [List.map_toArray, List.map_cons, List.map_nil]); first | done | rfl | (simp only [List.length_drop, List.length_take]; rfl)) ?_
    with_reducible refine (digest_Put.calls k a1 t435 _ A4.out).mono ?_
    rintro e w9 ⟨v436, rfl, ho0, hb⟩
    refine ⟨_, rfl, ?_⟩
    have n0_ := Aside0.mk (Kd.R_lower ho0 (below_size (by repeat (first | (with_reducible first | exact HB.out | apply below_alloc | apply pw_below_drewN | apply below_drew1 | refine below_set ?_ GE434.out) | exact HB.out))))
    have n1_ := Aside0.mk (blk_below (g := gb434) (o := .cells #[.int .u64 a0_0, .int .u64 a0_1] 69 (0, 0)) (by (with_reducible repeat (first | refine blk_drewN ?_ _ | refine blk_drew ?_ | refine blk_alloc ?_ _)); exact BK434.out) hb)
    have n2_ := Aside0.mk (below_step (by repeat (first | (with_reducible first | exact HB.out | apply below_alloc | apply pw_below_drewN | apply below_drew1 | refine below_set ?_ GE434.out) | exact HB.out)) hb)
    clear BK434
    clear HB
    have HO437 := n0_
    have BK434 := n1_
    have HB := n2_
    clear n0_ n1_ n2_
    (try clear hb)
    (try clear hb2)
    (try clear hk)
    (try clear hi)
    (try clear ho0)
    refine hK.out _ _ ⟨(blk_cell BK434.out 0).trans rfl, (blk_cell BK434.out 1).trans rfl⟩ (fun hHeld => ?_)
    clear hK K
    refine norm_ (a' := ?_) ?_ ?_
    rotate_left
    · show Act.put _ (some 9) _ = _
      simp only [Act.put, List.setIfInBounds_toArray, List.set_cons_zero, List.set_cons_succ, i64_w, i32_w]
      rfl
    refine one_ (i := 4) (N := some 11) #[true, true, true, true, true, false, false] rfl rfl (by kernel_rfl) (by decide) (fun K hK => ?_)
    refine Kd.R_append_rows_step (Kd.int .u8) (w0 := w) w.heap.size (by rfl) (.tmp 9) (.tmp 10) 22 5 (.int .u8 0) 1 rfl Tryd.underlying22 info5 rfl (by decide) (by omega) v436 t435 l2 _ _ _ (fun _ => True) (fun _ => False) rfl rfl ?aO ?aR (fun _ _ h => h) (fun _ h => h.elim) ?aF ?aB ?aS ?aL ?_
    (case aR => repeat (first | exact (Kd.C_below HR2.out HB.out) | (with_reducible refine Kd.C_alloc ?_ _) | (with_reducible refine Kd.C_drewN ?_ _) | (with_reducible refine Kd.C_drew ?_)))
    (case aB => exact (by repeat (first | (with_reducible first | exact HB.out | apply below_alloc | apply pw_below_drewN | apply below_drew1 | refine below_set ?_ GE434.out) | exact HB.out)))
    (case aF => exact (fun _ _ => trivial))
    (case aO => exact (by (with_reducible repeat (first | apply Kd.R_alloc | apply Kd.R_drewN | apply Kd.R_drew)); exact HO437.out))
    (case aS => exact (below_size (by repeat (first | (with_reducible first | exact HB.out | apply below_alloc | apply pw_below_drewN | apply below_drew1 | refine below_set ?_ GE434.out) | exact HB.out))))
    (case aL => have := LMc5.out; omega)
    intro v439 w10 ho hb hg hat
    rw [← Ny438.out] at ho
    have n0_ := Aside0.mk (blk_grown (g := gb434) (o := .cells #[.int .u64 a0_0, .int .u64 a0_1] 69 (0, 0)) (by (with_reducible repeat (first | refine blk_drewN ?_ _ | refine blk_drew ?_ | refine blk_alloc ?_ _)); exact BK434.out) hg (Kd.R_ne HO437.out BK434.out (by decide)))
    have n1_ := Aside0.mk (hb)
    have n2_ := Aside0.mk (ho)
    clear BK434
    clear HB
    clear HO437
    have BK434 := n0_
    have HB := n1_
    have HO440 := n2_
    clear n0_ n1_ n2_
    clear ho hb hg hat
    obtain ⟨Ao11, co11, eo11⟩ := Kd.R_slice HO440.out
    (first | subst eo11 | (injection eo11 with f1_ f2_ f3_; have f4_ := f1_.symm; have f5_ := f3_.symm; clear f1_ f2_ f3_; subst f4_; subst f5_))
    refine hK.out _ _ ⟨(blk_cell BK434.out 0).trans rfl, (blk_cell BK434.out 1).trans rfl⟩ (fun hHeld => ?_)
    clear hK K
    refine norm_ (a' := ?_) ?_ ?_
    rotate_left
    · show Act.put _ (some 11) _ = _
      simp only [Act.put, List.setIfInBounds_toArray, List.set_cons_zero, List.set_cons_succ, i64_w, i32_w]
      rfl
    refine one_ (i := 5) (N := some 12) #[true, true, true, true, true, true, false] rfl rfl (by kernel_rfl) (by decide) (fun K hK => ?_)
    refine goes_ Tryd.func124 (by kernel_rfl) rfl #[.agg #[.int .u64 a0_0, .int .u64 a0_1], .slice Ao11 y438.length co11] (by rfl) rfl rfl (by (try simp only [List.map_toArray, List.map_cons, List.map_nil]); first | done | rfl | (simp only [List.length_drop, List.length_take]; rfl)) ?_
    with_reducible refine (digest_Sum.calls a0_0 a0_1 _ _ y438 t441 _ ?side1 ?side2 A6.out).mono ?_
    (case side1 => repeat (first | exact (Kd.R_reads' HO440.out).2.2 | (with_reducible refine Kd.C_alloc ?_ _) | (with_reducible refine Kd.C_drewN ?_ _) | (with_reducible refine Kd.C_drew ?_)))
    (case side2 => exact (Kd.R_reads' HO440.out).2.1)
    rintro e w12 ⟨rfl, hb⟩
    refine ⟨_, rfl, ?_⟩
    have n0_ := Aside0.mk (Kd.R_below (by (with_reducible repeat (first | apply Kd.R_alloc | apply Kd.R_drewN | apply Kd.R_drew)); exact HO440.out) hb)
    have n1_ := Aside0.mk (blk_below (g := gb434) (o := .cells #[.int .u64 a0_0, .int .u64 a0_1] 69 (0, 0)) (by (with_reducible repeat (first | refine blk_drewN ?_ _ | refine blk_drew ?_ | refine blk_alloc ?_ _)); exact BK434.out) hb)
    have n2_ := Aside0.mk (below_step (by repeat (first | (with_reducible first | exact HB.out | apply below_alloc | apply pw_below_drewN | apply below_drew1 | refine below_set ?_ GE434.out) | exact HB.out)) hb)
    clear HO440
    clear BK434
    clear HB
    have HO440 := n0_
    have BK434 := n1_
    have HB := n2_
    clear n0_ n1_ n2_
    (try clear hb)
    (try clear hb2)
    (try clear hk)
    (try clear hi)
    refine hK.out _ _ ⟨(blk_cell BK434.out 0).trans rfl, (blk_cell BK434.out 1).trans rfl⟩ (fun hHeld => ?_)
    clear hK K
    refine norm_ (a' := ?_) ?_ ?_
    rotate_left
    · show Act.put _ (some 12) _ = _
      simp only [Act.put, List.setIfInBounds_toArray, List.set_cons_zero, List.set_cons_succ, i64_w, i32_w]
      rfl
    refine pure_ (i := 6) (N := some 6) (v := ?_) (a' := ?_) #[true, true, true, true, true, true, true] rfl rfl (by kernel_rfl) (fun _ _ _ h => h) (Or.inl ⟨by rfl, ?_⟩) ?_ ?_
    rotate_left
    · intro w'
      go_simp
      with_reducible rfl
    rotate_left
    · simp only [Act.put, List.setIfInBounds_toArray, List.set_cons_zero, List.set_cons_succ, i64_w, i32_w]
      rfl
    refine done_ (by kernel_rfl) ?_
    try go_wp2
    go_ret
    exact ⟨by first | rfl | (simp [errW_none, errW_some] <;> rfl) | (simp [*, errW_none, errW_some] <;> rfl) | (simp only [isEmpty_ne_, isEmpty_eq_]; rfl) | (simp [*, isEmpty_ne_, isEmpty_eq_]; done), by repeat (first | (with_reducible first | exact HB.out | apply below_alloc | apply pw_below_drewN | apply below_drew1 | refine below_set ?_ GE434.out) | exact HB.out)⟩
  · rw [if_neg c5] at H
    exact absurd H (by simp)
def logfile_Frame.j0 : Nat → Int → List Int → Int → Bool → Int → Int → Option (List Int × Int × Int)
  | 0, _, _, _, _, _, _ => none
  | k + 1, x1, x2, x9, x19, x443000, x443001 => if x19 = true then (some (([] : List Int), 0, 256)) else ((digest_Chain.f k x443000 x443001 x1 x2).bind fun t443 => ((some (([(x9 / 16777216) % 256, (x9 / 65536) % 256, (x9 / 256) % 256, (x9) % 256] : List Int) : List Int)).bind fun y444 => (if y444.length + x2.length < 140737488355328 then ((some (y444 ++ x2 : List Int)).bind fun y447 => ((digest_Put.f k t443).bind fun t450 => (if y447.length + t450.length < 140737488355328 then (some ((y447 ++ t450), t443, 0)) else (none)))) else (none))))
def logfile_Frame.f (k : Nat) (a0_0 : Int) (a0_1 : Int) (a1 : Int) (l2 : List Int) : Option (List Int × Int × Int) := if (l2.length : Int) < 1 then (logfile_Frame.j0 k a1 l2 (l2.length : Int) true a0_0 a0_1) else (logfile_Frame.j0 k a1 l2 (l2.length : Int) (decide ((l2.length : Int) > 16384)) a0_0 a0_1)
theorem logfile_Frame.mono_l : ∀ k, (∀ y0 y1 y2 y3 y4 y5, LeO (logfile_Frame.j0 k y0 y1 y2 y3 y4 y5) (logfile_Frame.j0 (k + 1) y0 y1 y2 y3 y4 y5))
  | 0 => fun _ _ _ _ _ _ r h => by simp [logfile_Frame.j0] at h
  | k + 1 => by
    have ih0 := logfile_Frame.mono_l k
    · intro y0 y1 y2 y3 y4 y5
      unfold logfile_Frame.j0
      repeat' first
      | (with_reducible exact ih0 _ _ _ _ _ _)
      | (with_reducible exact digest_Chain.mono _ _ _ _ _)
      | (with_reducible exact digest_Put.mono _ _)
      | (with_reducible exact LeO.refl _)
      | (with_reducible exact LeO.none _)
      | (with_reducible refine LeO.ite ?_ ?_)
      | (with_reducible refine LeO.bind ?_ (fun _ => ?_))
      | exact ih0 _ _ _ _ _ _
      | exact digest_Chain.mono _ _ _ _ _
      | exact digest_Put.mono _ _
      | exact LeO.none _
      | refine LeO.ite ?_ ?_
      | refine LeO.bind ?_ (fun _ => ?_)
theorem logfile_Frame.mono : ∀ a0 a1 a2 a3 k, LeO (logfile_Frame.f k a0 a1 a2 a3) (logfile_Frame.f (k + 1) a0 a1 a2 a3) := by
  intro a0 a1 a2 a3 k
  have ih0 := logfile_Frame.mono_l k
  unfold logfile_Frame.f
  repeat' first
      | (with_reducible exact ih0 _ _ _ _ _ _)
      | (with_reducible exact digest_Chain.mono _ _ _ _ _)
      | (with_reducible exact digest_Put.mono _ _)
      | (with_reducible exact LeO.refl _)
      | (with_reducible exact LeO.none _)
      | (with_reducible refine LeO.ite ?_ ?_)
      | (with_reducible refine LeO.bind ?_ (fun _ => ?_))
      | exact ih0 _ _ _ _ _ _
      | exact digest_Chain.mono _ _ _ _ _
      | exact digest_Put.mono _ _
      | exact LeO.none _
      | refine LeO.ite ?_ ?_
      | refine LeO.bind ?_ (fun _ => ?_)
set_option maxHeartbeats 8000000 in
set_option maxRecDepth 100000 in
theorem logfile_Frame.calls (k : Nat) (a0_0 : Int) (a0_1 : Int) (a1 : Int) (A2 : Option Addr) (c2 : Nat) (l2 : List Int) (r1 : List Int) (r2 : Int) (r3 : Int) (w : World) (hr2 : Kd.C (Kd.int .u8) w A2 l2.length l2) (hc2 : l2.length ≤ c2) (h : logfile_Frame.f k a0_0 a0_1 a1 l2 = some (r1, r2, r3)) :
    Calls Tryd.prog 48 #[.agg #[.int .u64 a0_0, .int .u64 a0_1], .int .u64 a1, .slice A2 l2.length c2] w fun e w' => ∃ v0_ : Value, e = .returned (.tuple #[v0_, .int .u64 r2, .int .i64 r3]) ∧ Kd.R (Kd.int .u8) 5 w' w.heap.size (fun _ => True) v0_ r1 ∧ Below w.heap.size w w' := by
  have hu69 := Tryd.underlying69
  have HR2 := Aside0.mk hr2
  have HC2 := Aside0.mk hc2
  clear hr2 hc2
  have HB := Aside0.mk (Below.refl w.heap.size w)
  have H : (if (l2.length : Int) < 1 then (logfile_Frame.j0 k a1 l2 (l2.length : Int) true a0_0 a0_1) else (logfile_Frame.j0 k a1 l2 (l2.length : Int) (decide ((l2.length : Int) > 16384)) a0_0 a0_1)) = some (r1, r2, r3) := h
  clear h
  have HC4 := Aside0.mk H
  clear H
  go_enter Tryd.func48, Tryd.ntmps48
  go_upto_region 2 with (first | ((with_reducible refine gate_dst (N := 3) rfl ?_); refine box_event ?hg (N := 3) ?hd (cs := #[.int .u64 a0_0, .int .u64 a0_1]) (t := 69) ?hr ?_; (case hd => rfl); (case hg => rfl); (case hr => first | (go_simp; done) | (go_simp; rfl)); intro gb442 hg w5 hbox hb; have n0_ := Aside0.mk (below_step (by repeat (first | (with_reducible first | exact HB.out | apply below_alloc | apply pw_below_drewN | apply below_drew1) | exact HB.out)) hb); have n1_ := Aside0.mk (hbox); have n2_ := Aside0.mk ((by rw [hg]; exact (below_size (by repeat (first | (with_reducible first | exact HB.out | apply below_alloc | apply pw_below_drewN | apply below_drew1) | exact HB.out))) : w.heap.size ≤ gb442)); have n3_ := Aside0.mk ((by rw [hg]; exact (below_size (by repeat (first | (with_reducible first | exact HB.out | apply below_alloc | apply pw_below_drewN | apply below_drew1) | exact HB.out))) : w.heap.size ≤ gb442)); clear HB; have HB := n0_; have BK442 := n1_; have GW442 := n2_; have GE442 := n3_; clear n0_ n1_ n2_ n3_; clear hb hbox hg))
  (try simp only [Act.put, List.setIfInBounds_toArray, List.set_cons_zero, List.set_cons_succ])
  go_cut [19] (fun v19 wc => ∃ (kq : Nat) (x19_3 : Bool), v19 = .bool x19_3 ∧ Aside0 (logfile_Frame.j0 kq a1 l2 (l2.length : Int) x19_3 a0_0 a0_1 = some (r1, r2, r3)) ∧ Aside0 (kq ≤ k) ∧ Aside0 (wc.heap[gb442]? = some (.cells #[.int .u64 a0_0, .int .u64 a0_1] 69 (0, 0))) ∧ Aside0 (Below w.heap.size w wc))
  case first =>
    have H := HC4.out
    clear HC4
    by_cases c6 : (l2.length : Int) < 1
    · rw [if_pos c6] at H
      have c6b0 : decide ((l2.length : Int) < 1) = true := decide_eq_true c6
      have c6b1 : decide (l2.length < 1) = true := decide_eq_true (by omega)
      clear c6
      (first | rw [c6b0] | (simp only [i64_w, i32_w]; rw [c6b0]) | skip)
      have H' := Aside0.mk H
      clear H
      go_wp2
      go_meet
      case rel => exact ⟨_, (true), (by first | rfl | (simp; done) | (simp [*]; done) | (simp only [isEmpty_ne_]; done)), H', ⟨by first | omega | exact Nat.le_refl _⟩, ⟨by (with_reducible repeat (first | refine blk_drewN ?_ _ | refine blk_drew ?_ | refine blk_alloc ?_ _)); exact BK442.out⟩, ⟨by repeat (first | (with_reducible first | exact HB.out | apply below_alloc | apply pw_below_drewN | apply below_drew1 | refine below_set ?_ GE442.out) | exact HB.out)⟩⟩
    · rw [if_neg c6] at H
      have c6b0 : decide ((l2.length : Int) < 1) = false := decide_eq_false c6
      have c6b1 : decide (l2.length < 1) = false := decide_eq_false (by omega)
      clear c6
      (first | rw [c6b0] | (simp only [i64_w, i32_w]; rw [c6b0]) | skip)
      have H' := Aside0.mk H
      clear H
      go_wp2
      go_meet
      case rel => exact ⟨_, (decide ((l2.length : Int) > 16384)), (by first | rfl | (simp; done) | (simp [*]; done) | (simp only [isEmpty_ne_]; done)), H', ⟨by first | omega | exact Nat.le_refl _⟩, ⟨by (with_reducible repeat (first | refine blk_drewN ?_ _ | refine blk_drew ?_ | refine blk_alloc ?_ _)); exact BK442.out⟩, ⟨by repeat (first | (with_reducible first | exact HB.out | apply below_alloc | apply pw_below_drewN | apply below_drew1 | refine below_set ?_ GE442.out) | exact HB.out)⟩⟩
  case rest =>
    clear HC4
    try clear c2
    try clear p2
    try clear c4
    try clear c6
    try clear c6b0
    try clear c6b1
    obtain ⟨kq, x19_3, rfl, HA, HJ3, BK442, HB⟩ := hcut
    cases kq with
    | zero => exact absurd HA.out (by simp [logfile_Frame.j0])
    | succ kj3 =>
      have H := HA.out
      clear HA
      simp only [logfile_Frame.j0] at H
      by_cases c7 : x19_3 = true
      · subst c7
        have H1 : (some (([] : List Int), 0, 256)) = some (r1, r2, r3) := by rw [if_pos rfl] at H; exact H
        clear H
        have H := H1
        clear H1
        simp only [Option.some.injEq, Prod.mk.injEq] at H
        obtain ⟨rfl, rfl, rfl⟩ := H
        go_wp2
        go_ret3
        exact ⟨_, by first | rfl | (simp [errW_none, errW_some] <;> rfl) | (simp [*, errW_none, errW_some] <;> rfl) | (simp only [isEmpty_ne_, isEmpty_eq_]; rfl) | (simp [*, isEmpty_ne_, isEmpty_eq_]; done), by first | exact Kd.R_nil _ _ _ _ _ | exact Kd.N_nil _ _ _ _ _ | exact Kd.V_nil _ _ _ _ _ | exact Kd.Q_nil _ _ _ _ _ | exact Kd.S_nil _ _ _ _ _, by repeat (first | (with_reducible first | exact HB.out | apply below_alloc | apply pw_below_drewN | apply below_drew1 | refine below_set ?_ GE442.out) | exact HB.out)⟩
      · replace c7 := Bool.eq_false_iff.mpr c7
        subst c7
        have H1 : ((digest_Chain.f kj3 a0_0 a0_1 a1 l2).bind fun t443 => ((some (([((l2.length : Int) / 16777216) % 256, ((l2.length : Int) / 65536) % 256, ((l2.length : Int) / 256) % 256, ((l2.length : Int)) % 256] : List Int) : List Int)).bind fun y444 => (if y444.length + l2.length < 140737488355328 then ((some (y444 ++ l2 : List Int)).bind fun y447 => ((digest_Put.f kj3 t443).bind fun t450 => (if y447.length + t450.length < 140737488355328 then (some ((y447 ++ t450), t443, 0)) else (none)))) else (none)))) = some (r1, r2, r3) := by rw [if_neg (show ¬ (false = true) by decide)] at H; exact H
        clear H
        have H := H1
        clear H1
        replace H := Option.bind_eq_some_iff.mp H
        obtain ⟨t443, A80, H⟩ := H
        replace H : ((some (([((l2.length : Int) / 16777216) % 256, ((l2.length : Int) / 65536) % 256, ((l2.length : Int) / 256) % 256, ((l2.length : Int)) % 256] : List Int) : List Int)).bind fun y444 => (if y444.length + l2.length < 140737488355328 then ((some (y444 ++ l2 : List Int)).bind fun y447 => ((digest_Put.f kj3 t443).bind fun t450 => (if y447.length + t450.length < 140737488355328 then (some ((y447 ++ t450), t443, 0)) else (none)))) else (none))) = some (r1, r2, r3) := H
        have A8 := Aside0.mk A80
        clear A80
        obtain ⟨y444, hy444⟩ : ∃ y_ : List Int, y_ = (([((l2.length : Int) / 16777216) % 256, ((l2.length : Int) / 65536) % 256, ((l2.length : Int) / 256) % 256, ((l2.length : Int)) % 256] : List Int)) := ⟨_, rfl⟩
        replace H : (if y444.length + l2.length < 140737488355328 then ((some (y444 ++ l2 : List Int)).bind fun y447 => ((digest_Put.f kj3 t443).bind fun t450 => (if y447.length + t450.length < 140737488355328 then (some ((y447 ++ t450), t443, 0)) else (none)))) else (none)) = some (r1, r2, r3) := by first | (rw [hy444]; with_reducible exact H) | (have H2_ := (Option.bind_some _ _).symm.trans H; rw [hy444]; with_reducible exact H2_) | (have H2_ := (Option.bind_some _ _).symm.trans H; with_reducible exact H2_) | with_reducible exact H | (rw [hy444]; exact H) | exact H
        have Ny444 := Aside0.mk hy444
        clear hy444
        by_cases c9 : y444.length + l2.length < 140737488355328
        · rw [if_pos c9] at H
          have LMc9 := Aside0.mk c9
          clear c9
          obtain ⟨y447, hy447⟩ : ∃ y_ : List Int, y_ = (y444 ++ l2) := ⟨_, rfl⟩
          replace H : ((digest_Put.f kj3 t443).bind fun t450 => (if y447.length + t450.length < 140737488355328 then (some ((y447 ++ t450), t443, 0)) else (none))) = some (r1, r2, r3) := by first | (rw [hy447]; with_reducible exact H) | (have H2_ := (Option.bind_some _ _).symm.trans H; rw [hy447]; with_reducible exact H2_) | (have H2_ := (Option.bind_some _ _).symm.trans H; with_reducible exact H2_) | with_reducible exact H | (rw [hy447]; exact H) | exact H
          have Ny447 := Aside0.mk hy447
          clear hy447
          replace H := Option.bind_eq_some_iff.mp H
          obtain ⟨t450, A100, H⟩ := H
          replace H : (if y447.length + t450.length < 140737488355328 then (some ((y447 ++ t450), t443, 0)) else (none)) = some (r1, r2, r3) := H
          have A10 := Aside0.mk A100
          clear A100
          by_cases c11 : y447.length + t450.length < 140737488355328
          · rw [if_pos c11] at H
            have LMc11 := Aside0.mk c11
            clear c11
            obtain ⟨y453, hy453⟩ : ∃ y_ : List Int, y_ = (y447 ++ t450) := ⟨_, rfl⟩
            replace H : (some (y453, t443, 0)) = some (r1, r2, r3) := by first | (rw [hy453]; with_reducible exact H) | (have H2_ := (Option.bind_some _ _).symm.trans H; rw [hy453]; with_reducible exact H2_) | (have H2_ := (Option.bind_some _ _).symm.trans H; with_reducible exact H2_) | with_reducible exact H | (rw [hy453]; exact H) | exact H
            have Ny453 := Aside0.mk hy453
            clear hy453
            simp only [Option.some.injEq, Prod.mk.injEq] at H
            obtain ⟨rfl, rfl, rfl⟩ := H
            have hcz12_0 : wc.cell? ⟨gb442, 0, none⟩ = some (.int .u64 a0_0) := (blk_cell BK442.out 0).trans rfl
            have hcz12_1 : wc.cell? ⟨gb442, 1, none⟩ = some (.int .u64 a0_1) := (blk_cell BK442.out 1).trans rfl
            have hfz12_0 := blk_frozen BK442.out 0
            have hfz12_1 := blk_frozen BK442.out 1
            go_wp2_with (first | ((with_reducible refine gate_callee (f := 85) rfl ?_); refine goesL_ (some 23) rfl rfl Tryd.func85 (by kernel_rfl) rfl #[.agg #[.int .u64 a0_0, .int .u64 a0_1], .int .u64 a1, .slice A2 l2.length c2] rfl (by (try simp only [List.map_toArray, List.map_cons, List.map_nil]); first | done | rfl | (simp only [List.length_drop, List.length_take]; rfl)) ?_; (with_reducible refine (digest_Chain.calls kj3 a0_0 a0_1 a1 _ _ l2 t443 _ ?side1 ?side2 A8.out).mono ?_); (case side1 => repeat (first | exact (Kd.C_below HR2.out HB.out) | (with_reducible refine Kd.C_alloc ?_ _) | (with_reducible refine Kd.C_drewN ?_ _) | (with_reducible refine Kd.C_drew ?_))); (case side2 => exact HC2.out); rintro e w13 ⟨rfl, hb⟩; refine ⟨_, rfl, ?_⟩; have n0_ := Aside0.mk (blk_below (g := gb442) (o := .cells #[.int .u64 a0_0, .int .u64 a0_1] 69 (0, 0)) (by (with_reducible repeat (first | refine blk_drewN ?_ _ | refine blk_drew ?_ | refine blk_alloc ?_ _)); exact BK442.out) hb); have n1_ := Aside0.mk (below_step (by repeat (first | (with_reducible first | exact HB.out | apply below_alloc | apply pw_below_drewN | apply below_drew1 | refine below_set ?_ GE442.out) | exact HB.out)) hb); clear BK442; clear HB; have BK442 := n0_; have HB := n1_; clear n0_ n1_; (try clear hb); (try clear hb2); (try clear hk); (try clear hi)) | ((with_reducible refine gate_dst (N := 35) rfl ?_); refine Kd.R_lit (Kd.int .u8) _ 5 ?hg (N := 35) ?hd (xs := ([((l2.length : Int) / 16777216) % 256, ((l2.length : Int) / 65536) % 256, ((l2.length : Int) / 256) % 256, ((l2.length : Int)) % 256] : List Int)) (inner := [.int .u8 (((l2.length : Int) / 16777216) % 256), .int .u8 (((l2.length : Int) / 65536) % 256), .int .u8 (((l2.length : Int) / 256) % 256), .int .u8 (((l2.length : Int)) % 256)]) (ok := fun _ => True) (okp := fun _ => True) ?hr ?hp (fun _ hk => hk) trivial (Below.refl _ _) (Nat.le_refl _) (by simp) ?_; (case hd => rfl); (case hg => rfl); (case hr => first | (go_simp; done) | (go_simp; rfl)); (case hp => exact (Reps.one (show Kd.M (Kd.int .u8) _ _ _ (((l2.length : Int) / 16777216) % 256) [.int .u8 (((l2.length : Int) / 16777216) % 256)] from rfl) (Reps.one (show Kd.M (Kd.int .u8) _ _ _ (((l2.length : Int) / 65536) % 256) [.int .u8 (((l2.length : Int) / 65536) % 256)] from rfl) (Reps.one (show Kd.M (Kd.int .u8) _ _ _ (((l2.length : Int) / 256) % 256) [.int .u8 (((l2.length : Int) / 256) % 256)] from rfl) (Reps.one (show Kd.M (Kd.int .u8) _ _ _ (((l2.length : Int)) % 256) [.int .u8 (((l2.length : Int)) % 256)] from rfl) (Reps.none _ _)))))); intro v445 w14 ho15 hb hg_ hnew_; clear hg_ hnew_; (first | rw [← Ny444.out] at ho15 | (simp only [Int.reduceToNat] at ho15; rw [← Ny444.out] at ho15)); have n0_ := Aside0.mk (Kd.R_lower ho15 (below_size (by repeat (first | (with_reducible first | exact HB.out | apply below_alloc | apply pw_below_drewN | apply below_drew1 | refine below_set ?_ GE442.out) | exact HB.out)))); have n1_ := Aside0.mk (blk_below (g := gb442) (o := .cells #[.int .u64 a0_0, .int .u64 a0_1] 69 (0, 0)) (by (with_reducible repeat (first | refine blk_drewN ?_ _ | refine blk_drew ?_ | refine blk_alloc ?_ _)); exact BK442.out) hb); have n2_ := Aside0.mk (below_step (by repeat (first | (with_reducible first | exact HB.out | apply below_alloc | apply pw_below_drewN | apply below_drew1 | refine below_set ?_ GE442.out) | exact HB.out)) hb); clear BK442; clear HB; have HO446 := n0_; have BK442 := n1_; have HB := n2_; clear n0_ n1_ n2_; clear hb ho15) | ((with_reducible refine gate_builtin (b := .append) (xs := #[.tmp 36, .tmp 37]) rfl ?_); at_builtin; refine Kd.R_append_rows (Kd.int .u8) (w0 := w) w.heap.size rfl (.tmp 36) (.tmp 37) 22 5 (.int .u8 0) 1 rfl Tryd.underlying22 info5 rfl (by decide) (by omega) v445 y444 l2 _ _ _ (fun _ => True) (fun _ => False) rfl rfl ?aO ?aR (fun _ _ h => h) (fun _ h => h.elim) ?aF ?aB ?aS ?aL ?_; (case aR => repeat (first | exact (Kd.C_below HR2.out HB.out) | (with_reducible refine Kd.C_alloc ?_ _) | (with_reducible refine Kd.C_drewN ?_ _) | (with_reducible refine Kd.C_drew ?_))); (case aB => exact (by repeat (first | (with_reducible first | exact HB.out | apply below_alloc | apply pw_below_drewN | apply below_drew1 | refine below_set ?_ GE442.out) | exact HB.out))); (case aF => exact (fun _ _ => trivial)); (case aO => exact (by (with_reducible repeat (first | apply Kd.R_alloc | apply Kd.R_drewN | apply Kd.R_drew)); exact HO446.out)); (case aS => exact (below_size (by repeat (first | (with_reducible first | exact HB.out | apply below_alloc | apply pw_below_drewN | apply below_drew1 | refine below_set ?_ GE442.out) | exact HB.out)))); (case aL => have := LMc9.out; omega); intro v448 w16 ho hb hg hat; rw [← Ny447.out] at ho; have n0_ := Aside0.mk (blk_grown (g := gb442) (o := .cells #[.int .u64 a0_0, .int .u64 a0_1] 69 (0, 0)) (by (with_reducible repeat (first | refine blk_drewN ?_ _ | refine blk_drew ?_ | refine blk_alloc ?_ _)); exact BK442.out) hg (Kd.R_ne HO446.out BK442.out (by decide))); have n1_ := Aside0.mk (hb); have n2_ := Aside0.mk (ho); clear BK442; clear HB; clear HO446; have BK442 := n0_; have HB := n1_; have HO449 := n2_; clear n0_ n1_ n2_; clear ho hb hg hat) | ((with_reducible refine gate_callee (f := 86) rfl ?_); refine goesL_ (some 41) rfl rfl Tryd.func86 (by kernel_rfl) rfl #[.int .u64 t443] rfl (by (try simp only [List.map_toArray, List.map_cons, List.map_nil]); first | done | rfl | (simp only [List.length_drop, List.length_take]; rfl)) ?_; (with_reducible refine (digest_Put.calls kj3 t443 t450 _ A10.out).mono ?_); rintro e w17 ⟨v451, rfl, ho0, hb⟩; refine ⟨_, rfl, ?_⟩; have n0_ := Aside0.mk (Kd.R_elder' (by (with_reducible repeat (first | apply Kd.R_alloc | apply Kd.R_drewN | apply Kd.R_drew)); exact HO449.out) (Kd.R_base ho0) hb); have n1_ := Aside0.mk (Kd.R_lower (Kd.R_new' ho0 (Kd.R_lt (by (with_reducible repeat (first | apply Kd.R_alloc | apply Kd.R_drewN | apply Kd.R_drew)); exact HO449.out))) (below_size (by repeat (first | (with_reducible first | exact HB.out | apply below_alloc | apply pw_below_drewN | apply below_drew1 | refine below_set ?_ GE442.out) | exact HB.out)))); have n2_ := Aside0.mk (blk_below (g := gb442) (o := .cells #[.int .u64 a0_0, .int .u64 a0_1] 69 (0, 0)) (by (with_reducible repeat (first | refine blk_drewN ?_ _ | refine blk_drew ?_ | refine blk_alloc ?_ _)); exact BK442.out) hb); have n3_ := Aside0.mk (below_step (by repeat (first | (with_reducible first | exact HB.out | apply below_alloc | apply pw_below_drewN | apply below_drew1 | refine below_set ?_ GE442.out) | exact HB.out)) hb); clear HO449; clear BK442; clear HB; have HO449 := n0_; have HO452 := n1_; have BK442 := n2_; have HB := n3_; clear n0_ n1_ n2_ n3_; (try clear hb); (try clear hb2); (try clear hk); (try clear hi); (try clear ho0); obtain ⟨Ao19, co19, eo19⟩ := Kd.R_slice HO452.out; subst eo19) | ((with_reducible refine gate_builtin (b := .append) (xs := #[.tmp 39, .tmp 41]) rfl ?_); at_builtin; refine Kd.R_append_rows (Kd.int .u8) (w0 := w) w.heap.size rfl (.tmp 39) (.tmp 41) 22 5 (.int .u8 0) 1 rfl Tryd.underlying22 info5 rfl (by decide) (by omega) v448 y447 t450 _ _ _ (fun k_ => some k_ ≠ (.slice Ao19 t450.length co19 : Value).ownBlock) (fun _ => False) rfl rfl ?aO ?aR (fun _ _ h => h) (fun _ h => h.elim) ?aF ?aB ?aS ?aL ?_; (case aR => repeat (first | exact (Kd.R_reads' HO452.out).2.2 | (with_reducible refine Kd.C_alloc ?_ _) | (with_reducible refine Kd.C_drewN ?_ _) | (with_reducible refine Kd.C_drew ?_))); (case aB => exact (by repeat (first | (with_reducible first | exact HB.out | apply below_alloc | apply pw_below_drewN | apply below_drew1 | refine below_set ?_ GE442.out) | exact HB.out))); (case aF => exact (fun k_ hk => Kd.fresh' (Kd.R_lt (by (with_reducible repeat (first | apply Kd.R_alloc | apply Kd.R_drewN | apply Kd.R_drew)); exact HO452.out)) k_ hk)); (case aO => exact (by (with_reducible repeat (first | apply Kd.R_alloc | apply Kd.R_drewN | apply Kd.R_drew)); exact Kd.R_mono HO449.out (fun _ hk => hk.2))); (case aS => exact (below_size (by repeat (first | (with_reducible first | exact HB.out | apply below_alloc | apply pw_below_drewN | apply below_drew1 | refine below_set ?_ GE442.out) | exact HB.out)))); (case aL => have := LMc11.out; omega); intro v454 w18 ho hb hg hat; rw [← Ny453.out] at ho; have n0_ := Aside0.mk (blk_grown (g := gb442) (o := .cells #[.int .u64 a0_0, .int .u64 a0_1] 69 (0, 0)) (by (with_reducible repeat (first | refine blk_drewN ?_ _ | refine blk_drew ?_ | refine blk_alloc ?_ _)); exact BK442.out) hg (Kd.R_ne HO449.out BK442.out (by decide))); have n1_ := Aside0.mk (Kd.R_after (ok := (fun _ => True)) (by (with_reducible repeat (first | apply Kd.R_alloc | apply Kd.R_drewN | apply Kd.R_drew)); exact HO452.out) hg hat); have n2_ := Aside0.mk (hb); have n3_ := Aside0.mk (ho); clear BK442; clear HO452; clear HB; clear HO449; have BK442 := n0_; have HO452 := n1_; have HB := n2_; have HO455 := n3_; clear n0_ n1_ n2_ n3_; clear ho hb hg hat))
            go_ret3
            exact ⟨_, by first | rfl | (simp [errW_none, errW_some] <;> rfl) | (simp [*, errW_none, errW_some] <;> rfl) | (simp only [isEmpty_ne_, isEmpty_eq_]; rfl) | (simp [*, isEmpty_ne_, isEmpty_eq_]; done), by (with_reducible repeat (first | apply Kd.R_alloc | apply Kd.R_drewN | apply Kd.R_drew)); exact Kd.R_mono HO455.out (fun _ hk => trivial), by repeat (first | (with_reducible first | exact HB.out | apply below_alloc | apply pw_below_drewN | apply below_drew1 | refine below_set ?_ GE442.out) | exact HB.out)⟩
          · rw [if_neg c11] at H
            exact absurd H (by simp)
        · rw [if_neg c9] at H
          exact absurd H (by simp)
def kauditref23_Put.l0 : Nat → Int → List Int → Int → Option (List Int)
  | 0, _, _, _ => none
  | k + 1, x0, x3, x4 => if x4 ≥ 0 then (if 0 ≤ (wrap64 (8 * x4)) then (if x3.length < 140737488355328 then (kauditref23_Put.l0 k x0 (x3 ++ [(shr .u64 x0 (wrap64 (8 * x4))) % 256]) (wrap64 (x4 - 1))) else (none)) else (none)) else (some x3)
def kauditref23_Put.f (k : Nat) (a0 : Int) : Option (List Int) := kauditref23_Put.l0 k a0 ([] : List Int) 7
theorem kauditref23_Put.mono_l : ∀ k, (∀ y0 y1 y2, LeO (kauditref23_Put.l0 k y0 y1 y2) (kauditref23_Put.l0 (k + 1) y0 y1 y2))
  | 0 => fun _ _ _ r h => by simp [kauditref23_Put.l0] at h
  | k + 1 => by
    have ih0 := kauditref23_Put.mono_l k
    · intro y0 y1 y2
      unfold kauditref23_Put.l0
      repeat' first
      | (with_reducible exact ih0 _ _ _)
      | (with_reducible exact LeO.refl _)
      | (with_reducible exact LeO.none _)
      | (with_reducible refine LeO.ite ?_ ?_)
      | (with_reducible refine LeO.bind ?_ (fun _ => ?_))
      | exact ih0 _ _ _
      | exact LeO.none _
      | refine LeO.ite ?_ ?_
      | refine LeO.bind ?_ (fun _ => ?_)
theorem kauditref23_Put.mono : ∀ a0 k, LeO (kauditref23_Put.f k a0) (kauditref23_Put.f (k + 1) a0) := by
  intro a0 k
  have ih0 := kauditref23_Put.mono_l k
  unfold kauditref23_Put.f
  repeat' first
      | (with_reducible exact ih0 _ _ _)
      | (with_reducible exact LeO.refl _)
      | (with_reducible exact LeO.none _)
      | (with_reducible refine LeO.ite ?_ ?_)
      | (with_reducible refine LeO.bind ?_ (fun _ => ?_))
      | exact ih0 _ _ _
      | exact LeO.none _
      | refine LeO.ite ?_ ?_
      | refine LeO.bind ?_ (fun _ => ?_)
set_option maxHeartbeats 8000000 in
set_option maxRecDepth 100000 in
theorem kauditref23_Put.calls (k : Nat) (a0 : Int) (r : List Int) (w : World) (h : kauditref23_Put.f k a0 = some r) :
    Calls Tryd.prog 88 #[.int .u64 a0] w fun e w' => ∃ v0_ : Value, e = .returned (v0_) ∧ Kd.R (Kd.int .u8) 5 w' w.heap.size (fun _ => True) v0_ r ∧ Below w.heap.size w w' := by
  have HB := Aside0.mk (Below.refl w.heap.size w)
  have H : (kauditref23_Put.l0 k a0 ([] : List Int) 7) = some r := h
  clear h
  have H' := Aside0.mk H
  clear H
  go_enter Tryd.func88, Tryd.ntmps88
  go_wp2
  go_loopg [3, 4] k (fun kq v3 v4 w' => ∃ (x3_1 : List Int) (x4_1 : Int), v4 = .int .i64 x4_1 ∧ Aside0 (kauditref23_Put.l0 kq a0 x3_1 x4_1 = some r) ∧ Aside0 (kq ≤ k) ∧ Aside0 (Kd.R (Kd.int .u8) 5 w' w.heap.size (fun _ => True) v3 x3_1) ∧ Aside0 (Below w.heap.size w w'))
  case atStart => exact ⟨(([] : List Int)), (7), (by first | rfl | (simp; done) | (simp [*]; done) | (simp only [isEmpty_ne_]; done)), H', ⟨Nat.le_refl _⟩, ⟨by first | exact Kd.R_nil _ _ _ _ _ | exact Kd.N_nil _ _ _ _ _ | exact Kd.V_nil _ _ _ _ _ | exact Kd.Q_nil _ _ _ _ _ | exact Kd.S_nil _ _ _ _ _⟩, ⟨by repeat (first | (with_reducible first | exact HB.out | apply below_alloc | apply pw_below_drewN | apply below_drew1) | exact HB.out)⟩⟩
  case round =>
    clear H'
    obtain ⟨x3_1, x4_1, rfl, HA, HK1, HO_3, HB⟩ := hrel
    cases gk with
    | zero => exact absurd HA.out (by simp [kauditref23_Put.l0])
    | succ k1 =>
      have H := HA.out
      clear HA
      simp only [kauditref23_Put.l0] at H
      by_cases c2 : x4_1 ≥ 0
      · rw [if_pos c2] at H
        have c2b0 : decide (0 ≤ x4_1) = true := decide_eq_true c2
        clear c2
        obtain ⟨ji3, hji3⟩ : ∃ j_ : Int, (wrap64 (8 * x4_1)) = j_ := ⟨_, rfl⟩
        replace H : (if 0 ≤ (ji3) then (if x3_1.length < 140737488355328 then (kauditref23_Put.l0 k1 a0 (x3_1 ++ [(shr .u64 a0 (ji3)) % 256]) (wrap64 (x4_1 - 1))) else (none)) else (none)) = some r := by first | (rw [hji3] at H; exact H) | (simp only [hji3] at H ⊢; exact H)
        have hji3w : (IntKind.i64.wrap (8 * x4_1)) = ji3 := (i64_w _).trans hji3
        by_cases c4 : 0 ≤ (ji3)
        · rw [if_pos c4] at H
          have c4b0 := eq_true c4
          have c4b1 : decide (0 ≤ (ji3)) = true := decide_eq_true c4
          clear c4
          obtain ⟨ji5, hji5⟩ : ∃ j_ : Int, (shr .u64 a0 (ji3)) = j_ := ⟨_, rfl⟩
          replace H : (if x3_1.length < 140737488355328 then (kauditref23_Put.l0 k1 a0 (x3_1 ++ [(ji5) % 256]) (wrap64 (x4_1 - 1))) else (none)) = some r := by first | (rw [hji5] at H; exact H) | (simp only [hji5] at H ⊢; exact H)
          have hji5_ : (a0 / 2 ^ min (ji3).toNat 64) = ji5 := hji5
          have hji5z : (ji3) ≤ 64 → (a0 / 2 ^ (ji3).toNat) = ji5 := shr_small hji5
          by_cases c6 : x3_1.length < 140737488355328
          · rw [if_pos c6] at H
            have LMc6 := Aside0.mk c6
            clear c6
            obtain ⟨y456, hy456⟩ : ∃ y_ : List Int, y_ = (x3_1 ++ [(ji5) % 256]) := ⟨_, rfl⟩
            replace H : (kauditref23_Put.l0 k1 a0 y456 (wrap64 (x4_1 - 1))) = some r := by first | (rw [hy456]; with_reducible exact H) | (have H2_ := (Option.bind_some _ _).symm.trans H; rw [hy456]; with_reducible exact H2_) | (have H2_ := (Option.bind_some _ _).symm.trans H; with_reducible exact H2_) | with_reducible exact H | (rw [hy456]; exact H) | exact H
            have Ny456 := Aside0.mk hy456
            clear hy456
            have H' := Aside0.mk H
            clear H
            go_wp2_with (first | ((with_reducible refine gate_builtin (b := .append) (xs := #[.tmp 9, .tmp 15]) rfl ?_); at_builtin; refine Kd.R_append (Kd.int .u8) (w0 := w) w.heap.size rfl (.tmp 9) (.tmp 15) 22 5 (.int .u8 0) 1 rfl Tryd.underlying22 info5 rfl (by decide) (by omega) u3 x3_1 ((ji5) % 256) [.int .u8 ((ji5) % 256)] (fun _ => True) (fun _ => False) rfl rfl ?aP (fun _ hk => hk.elim) ?aF ?aO ?aB ?aS ?aL ?_; (case aP => exact rfl); (case aB => exact (by repeat (first | (with_reducible first | exact HB.out | apply below_alloc | apply pw_below_drewN | apply below_drew1) | exact HB.out))); (case aF => exact (fun _ _ => trivial)); (case aO => exact (by (with_reducible repeat (first | apply Kd.R_alloc | apply Kd.R_drewN | apply Kd.R_drew)); exact HO_3.out)); (case aS => exact (below_size (by repeat (first | (with_reducible first | exact HB.out | apply below_alloc | apply pw_below_drewN | apply below_drew1) | exact HB.out)))); (case aL => have := LMc6.out; omega); intro v457 w7 ho hb hg hat; rw [← Ny456.out] at ho; have n0_ := Aside0.mk (hb); have n1_ := Aside0.mk (ho); clear HB; clear HO_3; have HB := n0_; have HO458 := n1_; clear n0_ n1_; clear ho hb hg hat))
            go_roundg k1
            case measure => have := HK1.out; omega
            case rel => exact ⟨(y456), (wrap64 (x4_1 - 1)), (by first | rfl | (simp; done) | (simp [*]; done) | (simp only [isEmpty_ne_]; done)), (by first | exact H' | ((try subst hji3); (try subst hji5); exact H')), ⟨by have := HK1.out; omega⟩, ⟨by (with_reducible repeat (first | apply Kd.R_alloc | apply Kd.R_drewN | apply Kd.R_drew)); exact HO458.out⟩, ⟨by repeat (first | (with_reducible first | exact HB.out | apply below_alloc | apply pw_below_drewN | apply below_drew1) | exact HB.out)⟩⟩
          · rw [if_neg c6] at H
            exact absurd H (by simp)
        · rw [if_neg c4] at H
          exact absurd H (by simp)
      · rw [if_neg c2] at H
        have c2b0 : decide (0 ≤ x4_1) = false := decide_eq_false c2
        clear c2
        obtain rfl := Option.some.inj H
        go_wp2
        go_ret
        exact ⟨_, by first | rfl | (simp [errW_none, errW_some] <;> rfl) | (simp [*, errW_none, errW_some] <;> rfl) | (simp only [isEmpty_ne_, isEmpty_eq_]; rfl) | (simp [*, isEmpty_ne_, isEmpty_eq_]; done), by (with_reducible repeat (first | apply Kd.R_alloc | apply Kd.R_drewN | apply Kd.R_drew)); exact HO_3.out, by repeat (first | (with_reducible first | exact HB.out | apply below_alloc | apply pw_below_drewN | apply below_drew1) | exact HB.out)⟩
def kauditref23_turn.f (a0 : Int) (a1 : Int) : Option (Int) := if 0 ≤ a1 then (if 0 ≤ (wrap64 (64 - a1)) then (some (Go.bits .or .u64 (shl .u64 a0 a1) (shr .u64 a0 (wrap64 (64 - a1))))) else (none)) else (none)
end Go.Proofs.YtjnlmmjadlidlaaDoor.PRec
end
section
namespace Go.Proofs.YtjnlmmjadlidlaaDoor.PRec
open Go.RowKit Go.Proofs.YtjnlmmjadlidlaaDoorW.PrintWords Go.Proofs.YtjnlmmjadlidlaaDoorW.PrintLast Go.Proofs.YtjnlmmjadlidlaaDoorW.PrintMore
attribute [local go_sem] max2_int min2_int max_two min_two max_three min_three max_four min_four
set_option linter.unusedVariables false
set_option linter.unusedSimpArgs false
def kauditref23_words_take.f (a0_0 : Int) (a0_1 : Int) (a0_2 : Int) (a0_3 : Int) (a1 : Int) : Option (Int × Int × Int × Int) := (kauditref23_words_rounds.f a0_0 a0_1 a0_2 (Go.bits .xor .u64 a0_3 a1) 2).bind fun bt461 => (some (Go.bits .xor .u64 bt461.1 a1, bt461.2.1, bt461.2.2.1, bt461.2.2.2))
set_option maxHeartbeats 8000000 in
set_option maxRecDepth 100000 in
theorem kauditref23_words_take.calls (a0_0 : Int) (a0_1 : Int) (a0_2 : Int) (a0_3 : Int) (a1 : Int) (r1 : Int) (r2 : Int) (r3 : Int) (r4 : Int) (w : World) (h : kauditref23_words_take.f a0_0 a0_1 a0_2 a0_3 a1 = some (r1, r2, r3, r4)) :
    Calls Tryd.prog 153 #[.agg #[.int .u64 a0_0, .int .u64 a0_1, .int .u64 a0_2, .int .u64 a0_3], .int .u64 a1] w fun e w' => e = .returned (.agg #[.int .u64 r1, .int .u64 r2, .int .u64 r3, .int .u64 r4]) ∧ Below w.heap.size w w' := by
  have hu210 := Tryd.underlying210
  have HB := Aside0.mk (Below.refl w.heap.size w)
  have H : ((kauditref23_words_rounds.f a0_0 a0_1 a0_2 (Go.bits .xor .u64 a0_3 a1) 2).bind fun bt461 => (some (Go.bits .xor .u64 bt461.1 a1, bt461.2.1, bt461.2.2.1, bt461.2.2.2))) = some (r1, r2, r3, r4) := h
  clear h
  replace H := Option.bind_eq_some_iff.mp H
  obtain ⟨⟨t461, t462, t463, t464⟩, A30, H⟩ := H
  replace H : (some (Go.bits .xor .u64 t461 a1, t462, t463, t464)) = some (r1, r2, r3, r4) := H
  have A3 := Aside0.mk A30
  clear A30
  simp only [Option.some.injEq, Prod.mk.injEq] at H
  obtain ⟨rfl, rfl, rfl, rfl⟩ := H
  go_enter Tryd.func153, Tryd.ntmps153
  go_wp2_with (first | ((with_reducible refine gate_dst (N := 2) rfl ?_); refine box_event ?hg (N := 2) ?hd (cs := #[.int .u64 a0_0, .int .u64 a0_1, .int .u64 a0_2, .int .u64 a0_3]) (t := 210) ?hr ?_; (case hd => rfl); (case hg => rfl); (case hr => first | (go_simp; done) | (go_simp; rfl)); intro gb459 hg w4 hbox hb; have n0_ := Aside0.mk (below_step (by repeat (first | (with_reducible first | exact HB.out | apply below_alloc | apply pw_below_drewN | apply below_drew1) | exact HB.out)) hb); have n1_ := Aside0.mk (hbox); have n2_ := Aside0.mk ((by rw [hg]; exact (below_size (by repeat (first | (with_reducible first | exact HB.out | apply below_alloc | apply pw_below_drewN | apply below_drew1) | exact HB.out))) : w.heap.size ≤ gb459)); have n3_ := Aside0.mk ((by rw [hg]; exact (below_size (by repeat (first | (with_reducible first | exact HB.out | apply below_alloc | apply pw_below_drewN | apply below_drew1) | exact HB.out))) : w.heap.size ≤ gb459)); clear HB; have HB := n0_; have BK459 := n1_; have GW459 := n2_; have GE459 := n3_; clear n0_ n1_ n2_ n3_; clear hb hbox hg) | ((with_reducible refine gate_dst (N := 4) rfl ?_); refine box_event ?hg (N := 4) ?hd (cs := #[.int .u64 0, .int .u64 0, .int .u64 0, .int .u64 0]) (t := 210) ?hr ?_; (case hd => rfl); (case hg => rfl); (case hr => first | (go_simp; done) | (go_simp; rfl)); intro gb460 hg w5 hbox hb; have n0_ := Aside0.mk (blk_below (g := gb459) (o := .cells #[.int .u64 a0_0, .int .u64 a0_1, .int .u64 a0_2, .int .u64 a0_3] 210 (0, 0)) (by (with_reducible repeat (first | refine blk_drewN ?_ _ | refine blk_drew ?_ | refine blk_alloc ?_ _)); exact BK459.out) hb); have n1_ := Aside0.mk (below_step (by repeat (first | (with_reducible first | exact HB.out | apply below_alloc | apply pw_below_drewN | apply below_drew1 | refine below_set ?_ GE459.out) | exact HB.out)) hb); have n2_ := Aside0.mk (hbox); have n3_ := Aside0.mk ((by rw [hg]; exact (below_size (by repeat (first | (with_reducible first | exact HB.out | apply below_alloc | apply pw_below_drewN | apply below_drew1 | refine below_set ?_ GE459.out) | exact HB.out))) : w.heap.size ≤ gb460)); have n4_ := Aside0.mk ((by rw [hg]; exact (below_size (by repeat (first | (with_reducible first | exact HB.out | apply below_alloc | apply pw_below_drewN | apply below_drew1 | refine below_set ?_ GE459.out) | exact HB.out))) : w.heap.size ≤ gb460)); have n5_ := Aside0.mk ((by rw [hg]; exact Nat.ne_of_lt (blk_lt (g := gb459) (o := .cells #[.int .u64 a0_0, .int .u64 a0_1, .int .u64 a0_2, .int .u64 a0_3] 210 (0, 0)) (by (with_reducible repeat (first | refine blk_drewN ?_ _ | refine blk_drew ?_ | refine blk_alloc ?_ _)); exact BK459.out)) : gb459 ≠ gb460)); have n6_ := Aside0.mk ((by rw [hg]; exact Nat.ne_of_gt (blk_lt (g := gb459) (o := .cells #[.int .u64 a0_0, .int .u64 a0_1, .int .u64 a0_2, .int .u64 a0_3] 210 (0, 0)) (by (with_reducible repeat (first | refine blk_drewN ?_ _ | refine blk_drew ?_ | refine blk_alloc ?_ _)); exact BK459.out)) : gb460 ≠ gb459)); clear BK459; clear HB; have BK459 := n0_; have HB := n1_; have BK460 := n2_; have GW460 := n3_; have GE460 := n4_; have NB459_460 := n5_; have NB460_459 := n6_; clear n0_ n1_ n2_ n3_ n4_ n5_ n6_; clear hb hbox hg; have hnb6 := NB459_460.out; have hnc6 := NB460_459.out; have hcz7_0 : w5.cell? ⟨gb459, 0, none⟩ = some (.int .u64 a0_0) := (blk_cell BK459.out 0).trans rfl; have hcz7_1 : w5.cell? ⟨gb459, 1, none⟩ = some (.int .u64 a0_1) := (blk_cell BK459.out 1).trans rfl; have hcz7_2 : w5.cell? ⟨gb459, 2, none⟩ = some (.int .u64 a0_2) := (blk_cell BK459.out 2).trans rfl; have hcz7_3 : w5.cell? ⟨gb459, 3, none⟩ = some (.int .u64 a0_3) := (blk_cell BK459.out 3).trans rfl; have hfz7_0 := blk_frozen BK459.out 0; have hfz7_1 := blk_frozen BK459.out 1; have hfz7_2 := blk_frozen BK459.out 2; have hfz7_3 := blk_frozen BK459.out 3) | ((with_reducible refine gate_callee (f := 154) rfl ?_); refine goesL_ (some 11) rfl rfl Tryd.func154 (by kernel_rfl) rfl #[.agg #[.int .u64 a0_0, .int .u64 a0_1, .int .u64 a0_2, .int .u64 (Go.bits .xor .u64 a0_3 a1)], .int .i64 2] rfl (by (try simp only [List.map_toArray, List.map_cons, List.map_nil]); first | done | rfl | (simp only [List.length_drop, List.length_take]; rfl)) ?_; (with_reducible refine (kauditref23_words_rounds.calls a0_0 a0_1 a0_2 (Go.bits .xor .u64 a0_3 a1) 2 t461 t462 t463 t464 _ A3.out).mono ?_); rintro e w8 ⟨rfl, hb⟩; refine ⟨_, rfl, ?_⟩; have n0_ := Aside0.mk (blk_below (g := gb459) (o := .cells #[.int .u64 a0_0, .int .u64 a0_1, .int .u64 a0_2, .int .u64 (Go.bits .xor .u64 a0_3 a1)] 210 (0, 0)) (by (with_reducible repeat (first | refine blk_drewN ?_ _ | refine blk_drew ?_ | refine blk_alloc ?_ _)); refine blk_put (cs := #[.int .u64 a0_0, .int .u64 a0_1, .int .u64 a0_2, .int .u64 a0_3]) ?_ 3 _ rfl; (with_reducible repeat (first | refine blk_drewN ?_ _ | refine blk_drew ?_ | refine blk_alloc ?_ _)); exact BK459.out) hb); have n1_ := Aside0.mk (blk_below (g := gb460) (o := .cells #[.int .u64 0, .int .u64 0, .int .u64 0, .int .u64 0] 210 (0, 0)) (by (with_reducible repeat (first | refine blk_drewN ?_ _ | refine blk_drew ?_ | refine blk_alloc ?_ _)); refine blk_far ?_ NB460_459.out _; (with_reducible repeat (first | refine blk_drewN ?_ _ | refine blk_drew ?_ | refine blk_alloc ?_ _)); exact BK460.out) hb); have n2_ := Aside0.mk (below_step (by repeat (first | (with_reducible first | exact HB.out | apply below_alloc | apply pw_below_drewN | apply below_drew1 | refine below_set ?_ GE459.out | refine below_set ?_ GE460.out) | exact HB.out)) hb); clear BK459; clear BK460; clear HB; have BK459 := n0_; have BK460 := n1_; have HB := n2_; clear n0_ n1_ n2_; (try clear hb); (try clear hb2); (try clear hk); (try clear hi); have hcz9_0 : w8.cell? ⟨gb459, 0, none⟩ = some (.int .u64 a0_0) := (blk_cell BK459.out 0).trans rfl; have hcz9_1 : w8.cell? ⟨gb459, 1, none⟩ = some (.int .u64 a0_1) := (blk_cell BK459.out 1).trans rfl; have hcz9_2 : w8.cell? ⟨gb459, 2, none⟩ = some (.int .u64 a0_2) := (blk_cell BK459.out 2).trans rfl; have hcz9_3 : w8.cell? ⟨gb459, 3, none⟩ = some (.int .u64 (Go.bits .xor .u64 a0_3 a1)) := (blk_cell BK459.out 3).trans rfl; have hfz9_0 := blk_frozen BK459.out 0; have hfz9_1 := blk_frozen BK459.out 1; have hfz9_2 := blk_frozen BK459.out 2; have hfz9_3 := blk_frozen BK459.out 3; have hcz10_0 : w8.cell? ⟨gb460, 0, none⟩ = some (.int .u64 0) := (blk_cell BK460.out 0).trans rfl; have hcz10_1 : w8.cell? ⟨gb460, 1, none⟩ = some (.int .u64 0) := (blk_cell BK460.out 1).trans rfl; have hcz10_2 : w8.cell? ⟨gb460, 2, none⟩ = some (.int .u64 0) := (blk_cell BK460.out 2).trans rfl; have hcz10_3 : w8.cell? ⟨gb460, 3, none⟩ = some (.int .u64 0) := (blk_cell BK460.out 3).trans rfl; have hfz10_0 := blk_frozen BK460.out 0; have hfz10_1 := blk_frozen BK460.out 1; have hfz10_2 := blk_frozen BK460.out 2; have hfz10_3 := blk_frozen BK460.out 3))
  refine bodyPost_ret (results_cell_row rfl _ _ gb460 210 #[.int .u64 (Go.bits .xor .u64 t461 a1), .int .u64 t462, .int .u64 t463, .int .u64 t464] (0, 0) _ rfl (by (with_reducible repeat (first | refine blk_drewN ?_ _ | refine blk_drew ?_ | refine blk_alloc ?_ _)); refine blk_put (cs := #[.int .u64 (Go.bits .xor .u64 t461 a1), .int .u64 t462, .int .u64 t463, .int .u64 0]) ?_ 3 _ rfl; (with_reducible repeat (first | refine blk_drewN ?_ _ | refine blk_drew ?_ | refine blk_alloc ?_ _)); refine blk_put (cs := #[.int .u64 (Go.bits .xor .u64 t461 a1), .int .u64 t462, .int .u64 0, .int .u64 0]) ?_ 2 _ rfl; (with_reducible repeat (first | refine blk_drewN ?_ _ | refine blk_drew ?_ | refine blk_alloc ?_ _)); refine blk_put (cs := #[.int .u64 (Go.bits .xor .u64 t461 a1), .int .u64 0, .int .u64 0, .int .u64 0]) ?_ 1 _ rfl; (with_reducible repeat (first | refine blk_drewN ?_ _ | refine blk_drew ?_ | refine blk_alloc ?_ _)); refine blk_put (cs := #[.int .u64 0, .int .u64 0, .int .u64 0, .int .u64 0]) ?_ 0 _ rfl; (with_reducible repeat (first | refine blk_drewN ?_ _ | refine blk_drew ?_ | refine blk_alloc ?_ _)); refine blk_far ?_ NB460_459.out _; (with_reducible repeat (first | refine blk_drewN ?_ _ | refine blk_drew ?_ | refine blk_alloc ?_ _)); refine blk_far ?_ NB460_459.out _; (with_reducible repeat (first | refine blk_drewN ?_ _ | refine blk_drew ?_ | refine blk_alloc ?_ _)); refine blk_far ?_ NB460_459.out _; (with_reducible repeat (first | refine blk_drewN ?_ _ | refine blk_drew ?_ | refine blk_alloc ?_ _)); refine blk_far ?_ NB460_459.out _; (with_reducible repeat (first | refine blk_drewN ?_ _ | refine blk_drew ?_ | refine blk_alloc ?_ _)); refine blk_far ?_ NB460_459.out _; (with_reducible repeat (first | refine blk_drewN ?_ _ | refine blk_drew ?_ | refine blk_alloc ?_ _)); exact BK460.out) Tryd.underlying210 rfl (by kernel_rfl)) rfl ?_
  exact ⟨by first | rfl | (simp [errW_none, errW_some] <;> rfl) | (simp [*, errW_none, errW_some] <;> rfl) | (simp only [isEmpty_ne_, isEmpty_eq_]; rfl) | (simp [*, isEmpty_ne_, isEmpty_eq_]; done), by repeat (first | (with_reducible first | exact HB.out | apply below_alloc | apply pw_below_drewN | apply below_drew1 | refine below_set ?_ GE459.out | refine below_set ?_ GE460.out) | exact HB.out)⟩
def kauditref23_Sum.l0 : Nat → List Int → Int → List Int → Int → Int → Int → Int → Int → Int → Option (Int)
  | 0, _, _, _, _, _, _, _, _, _ => none
  | k + 1, x1, x6, x22, x23, x24, x467000, x467001, x467002, x467003 => if x24 < x23 then (if 0 ≤ x24 then (if x24 < (x22.length : Int) then (if 0 ≤ (wrap64 (8 * (Int.tmod x24 8))) then (if (Int.tmod x24 8) = 7 then ((kauditref23_words_take.f x467000 x467001 x467002 x467003 (Go.bits .or .u64 x6 (shl .u64 (IntKind.u64.wrap (rd x22 x24)) (wrap64 (8 * (Int.tmod x24 8)))))).bind fun bt468 => (kauditref23_Sum.l0 k x1 0 x22 x23 (wrap64 (x24 + 1)) bt468.1 bt468.2.1 bt468.2.2.1 bt468.2.2.2)) else (kauditref23_Sum.l0 k x1 (Go.bits .or .u64 x6 (shl .u64 (IntKind.u64.wrap (rd x22 x24)) (wrap64 (8 * (Int.tmod x24 8))))) x22 x23 (wrap64 (x24 + 1)) x467000 x467001 x467002 x467003)) else (none)) else (none)) else (none)) else ((kauditref23_words_take.f x467000 x467001 x467002 x467003 (Go.bits .or .u64 x6 (((x1.length : Int) % 256) * 72057594037927936))).bind fun bt472 => ((kauditref23_words_rounds.f bt472.1 bt472.2.1 (Go.bits .xor .u64 bt472.2.2.1 255) bt472.2.2.2 4).bind fun bt476 => (some (Go.bits .xor .u64 (Go.bits .xor .u64 (Go.bits .xor .u64 bt476.1 bt476.2.1) bt476.2.2.1) bt476.2.2.2))))
def kauditref23_Sum.f (k : Nat) (a0_0 : Int) (a0_1 : Int) (l1 : List Int) : Option (Int) := kauditref23_Sum.l0 k l1 0 l1 (l1.length : Int) 0 (Go.bits .xor .u64 a0_0 8317987319222330741) (Go.bits .xor .u64 a0_1 7237128888997146477) (Go.bits .xor .u64 a0_0 7816392313619706465) (Go.bits .xor .u64 a0_1 8387220255154660723)
theorem kauditref23_Sum.mono_l : ∀ k, (∀ y0 y1 y2 y3 y4 y5 y6 y7 y8, LeO (kauditref23_Sum.l0 k y0 y1 y2 y3 y4 y5 y6 y7 y8) (kauditref23_Sum.l0 (k + 1) y0 y1 y2 y3 y4 y5 y6 y7 y8))
  | 0 => fun _ _ _ _ _ _ _ _ _ r h => by simp [kauditref23_Sum.l0] at h
  | k + 1 => by
    have ih0 := kauditref23_Sum.mono_l k
    · intro y0 y1 y2 y3 y4 y5 y6 y7 y8
      unfold kauditref23_Sum.l0
      repeat' first
      | (with_reducible exact ih0 _ _ _ _ _ _ _ _ _)
      | (with_reducible exact LeO.refl _)
      | (with_reducible exact LeO.none _)
      | (with_reducible refine LeO.ite ?_ ?_)
      | (with_reducible refine LeO.bind ?_ (fun _ => ?_))
      | exact ih0 _ _ _ _ _ _ _ _ _
      | exact LeO.none _
      | refine LeO.ite ?_ ?_
      | refine LeO.bind ?_ (fun _ => ?_)
theorem kauditref23_Sum.mono : ∀ a0 a1 a2 k, LeO (kauditref23_Sum.f k a0 a1 a2) (kauditref23_Sum.f (k + 1) a0 a1 a2) := by
  intro a0 a1 a2 k
  have ih0 := kauditref23_Sum.mono_l k
  unfold kauditref23_Sum.f
  repeat' first
      | (with_reducible exact ih0 _ _ _ _ _ _ _ _ _)
      | (with_reducible exact LeO.refl _)
      | (with_reducible exact LeO.none _)
      | (with_reducible refine LeO.ite ?_ ?_)
      | (with_reducible refine LeO.bind ?_ (fun _ => ?_))
      | exact ih0 _ _ _ _ _ _ _ _ _
      | exact LeO.none _
      | refine LeO.ite ?_ ?_
      | refine LeO.bind ?_ (fun _ => ?_)
set_option maxHeartbeats 8000000 in
set_option maxRecDepth 100000 in
theorem kauditref23_Sum.calls (k : Nat) (a0_0 : Int) (a0_1 : Int) (A1 : Option Addr) (c1 : Nat) (l1 : List Int) (r : Int) (w : World) (hr1 : Kd.C (Kd.int .u8) w A1 l1.length l1) (hc1 : l1.length ≤ c1) (h : kauditref23_Sum.f k a0_0 a0_1 l1 = some r) :
    Calls Tryd.prog 125 #[.agg #[.int .u64 a0_0, .int .u64 a0_1], .slice A1 l1.length c1] w fun e w' => e = .returned (.int .u64 r) ∧ Below w.heap.size w w' := by
  have hu69 := Tryd.underlying69
  have hu210 := Tryd.underlying210
  have HR1 := Aside0.mk hr1
  have HC1 := Aside0.mk hc1
  clear hr1 hc1
  have HB := Aside0.mk (Below.refl w.heap.size w)
  have H : (kauditref23_Sum.l0 k l1 0 l1 (l1.length : Int) 0 (Go.bits .xor .u64 a0_0 8317987319222330741) (Go.bits .xor .u64 a0_1 7237128888997146477) (Go.bits .xor .u64 a0_0 7816392313619706465) (Go.bits .xor .u64 a0_1 8387220255154660723)) = some r := h
  clear h
  have H' := Aside0.mk H
  clear H
  go_enter Tryd.func125, Tryd.ntmps125
  go_wp2_with (first | ((with_reducible refine gate_dst (N := 2) rfl ?_); refine box_event ?hg (N := 2) ?hd (cs := #[.int .u64 a0_0, .int .u64 a0_1]) (t := 69) ?hr ?_; (case hd => rfl); (case hg => rfl); (case hr => first | (go_simp; done) | (go_simp; rfl)); intro gb465 hg w3 hbox hb; have n0_ := Aside0.mk (below_step (by repeat (first | (with_reducible first | exact HB.out | apply below_alloc | apply pw_below_drewN | apply below_drew1) | exact HB.out)) hb); have n1_ := Aside0.mk (hbox); have n2_ := Aside0.mk ((by rw [hg]; exact (below_size (by repeat (first | (with_reducible first | exact HB.out | apply below_alloc | apply pw_below_drewN | apply below_drew1) | exact HB.out))) : w.heap.size ≤ gb465)); have n3_ := Aside0.mk ((by rw [hg]; exact (below_size (by repeat (first | (with_reducible first | exact HB.out | apply below_alloc | apply pw_below_drewN | apply below_drew1) | exact HB.out))) : w.heap.size ≤ gb465)); clear HB; have HB := n0_; have BK465 := n1_; have GW465 := n2_; have GE465 := n3_; clear n0_ n1_ n2_ n3_; clear hb hbox hg; have hcz4_0 : w3.cell? ⟨gb465, 0, none⟩ = some (.int .u64 a0_0) := (blk_cell BK465.out 0).trans rfl; have hcz4_1 : w3.cell? ⟨gb465, 1, none⟩ = some (.int .u64 a0_1) := (blk_cell BK465.out 1).trans rfl; have hfz4_0 := blk_frozen BK465.out 0; have hfz4_1 := blk_frozen BK465.out 1) | ((with_reducible refine gate_dst (N := 5) rfl ?_); refine box_event ?hg (N := 5) ?hd (cs := #[.int .u64 0, .int .u64 0, .int .u64 0, .int .u64 0]) (t := 210) ?hr ?_; (case hd => rfl); (case hg => rfl); (case hr => first | (go_simp; done) | (go_simp; rfl)); intro gb466 hg w5 hbox hb; have n0_ := Aside0.mk (blk_below (g := gb465) (o := .cells #[.int .u64 a0_0, .int .u64 a0_1] 69 (0, 0)) (by (with_reducible repeat (first | refine blk_drewN ?_ _ | refine blk_drew ?_ | refine blk_alloc ?_ _)); exact BK465.out) hb); have n1_ := Aside0.mk (below_step (by repeat (first | (with_reducible first | exact HB.out | apply below_alloc | apply pw_below_drewN | apply below_drew1 | refine below_set ?_ GE465.out) | exact HB.out)) hb); have n2_ := Aside0.mk (hbox); have n3_ := Aside0.mk ((by rw [hg]; exact (below_size (by repeat (first | (with_reducible first | exact HB.out | apply below_alloc | apply pw_below_drewN | apply below_drew1 | refine below_set ?_ GE465.out) | exact HB.out))) : w.heap.size ≤ gb466)); have n4_ := Aside0.mk ((by rw [hg]; exact (below_size (by repeat (first | (with_reducible first | exact HB.out | apply below_alloc | apply pw_below_drewN | apply below_drew1 | refine below_set ?_ GE465.out) | exact HB.out))) : w.heap.size ≤ gb466)); have n5_ := Aside0.mk ((by rw [hg]; exact Nat.ne_of_lt (blk_lt (g := gb465) (o := .cells #[.int .u64 a0_0, .int .u64 a0_1] 69 (0, 0)) (by (with_reducible repeat (first | refine blk_drewN ?_ _ | refine blk_drew ?_ | refine blk_alloc ?_ _)); exact BK465.out)) : gb465 ≠ gb466)); have n6_ := Aside0.mk ((by rw [hg]; exact Nat.ne_of_gt (blk_lt (g := gb465) (o := .cells #[.int .u64 a0_0, .int .u64 a0_1] 69 (0, 0)) (by (with_reducible repeat (first | refine blk_drewN ?_ _ | refine blk_drew ?_ | refine blk_alloc ?_ _)); exact BK465.out)) : gb466 ≠ gb465)); clear BK465; clear HB; have BK465 := n0_; have HB := n1_; have BK466 := n2_; have GW466 := n3_; have GE466 := n4_; have NB465_466 := n5_; have NB466_465 := n6_; clear n0_ n1_ n2_ n3_ n4_ n5_ n6_; clear hb hbox hg; have hnb6 := NB466_465.out; have hnc6 := NB465_466.out; have hcz7_0 : w5.cell? ⟨gb466, 0, none⟩ = some (.int .u64 0) := (blk_cell BK466.out 0).trans rfl; have hcz7_1 : w5.cell? ⟨gb466, 1, none⟩ = some (.int .u64 0) := (blk_cell BK466.out 1).trans rfl; have hcz7_2 : w5.cell? ⟨gb466, 2, none⟩ = some (.int .u64 0) := (blk_cell BK466.out 2).trans rfl; have hcz7_3 : w5.cell? ⟨gb466, 3, none⟩ = some (.int .u64 0) := (blk_cell BK466.out 3).trans rfl; have hfz7_0 := blk_frozen BK466.out 0; have hfz7_1 := blk_frozen BK466.out 1; have hfz7_2 := blk_frozen BK466.out 2; have hfz7_3 := blk_frozen BK466.out 3))
  go_loopg [6, 24] k (fun kq v6 v24 w' => ∃ (x6_1 : Int) (x24_1 : Int) (x467000_1 : Int) (x467001_1 : Int) (x467002_1 : Int) (x467003_1 : Int), v6 = .int .u64 x6_1 ∧ v24 = .int .i64 x24_1 ∧ Aside0 (kauditref23_Sum.l0 kq l1 x6_1 l1 (l1.length : Int) x24_1 x467000_1 x467001_1 x467002_1 x467003_1 = some r) ∧ Aside0 (kq ≤ k) ∧ Aside0 (w'.heap[gb465]? = some (.cells #[.int .u64 a0_0, .int .u64 a0_1] 69 (0, 0))) ∧ Aside0 (w'.heap[gb466]? = some (.cells #[.int .u64 x467000_1, .int .u64 x467001_1, .int .u64 x467002_1, .int .u64 x467003_1] 210 (0, 0))) ∧ Aside0 (Below w.heap.size w w'))
  case atStart => exact ⟨(0), (0), (Go.bits .xor .u64 a0_0 8317987319222330741), (Go.bits .xor .u64 a0_1 7237128888997146477), (Go.bits .xor .u64 a0_0 7816392313619706465), (Go.bits .xor .u64 a0_1 8387220255154660723), (by first | rfl | (simp; done) | (simp [*]; done) | (simp only [isEmpty_ne_]; done)), (by first | rfl | (simp; done) | (simp [*]; done) | (simp only [isEmpty_ne_]; done)), H', ⟨Nat.le_refl _⟩, ⟨by (with_reducible repeat (first | refine blk_drewN ?_ _ | refine blk_drew ?_ | refine blk_alloc ?_ _)); refine blk_far ?_ NB465_466.out _; (with_reducible repeat (first | refine blk_drewN ?_ _ | refine blk_drew ?_ | refine blk_alloc ?_ _)); refine blk_far ?_ NB465_466.out _; (with_reducible repeat (first | refine blk_drewN ?_ _ | refine blk_drew ?_ | refine blk_alloc ?_ _)); refine blk_far ?_ NB465_466.out _; (with_reducible repeat (first | refine blk_drewN ?_ _ | refine blk_drew ?_ | refine blk_alloc ?_ _)); refine blk_far ?_ NB465_466.out _; (with_reducible repeat (first | refine blk_drewN ?_ _ | refine blk_drew ?_ | refine blk_alloc ?_ _)); exact BK465.out⟩, ⟨by (with_reducible repeat (first | refine blk_drewN ?_ _ | refine blk_drew ?_ | refine blk_alloc ?_ _)); refine blk_put (cs := #[.int .u64 (Go.bits .xor .u64 a0_0 8317987319222330741), .int .u64 (Go.bits .xor .u64 a0_1 7237128888997146477), .int .u64 (Go.bits .xor .u64 a0_0 7816392313619706465), .int .u64 0]) ?_ 3 _ rfl; (with_reducible repeat (first | refine blk_drewN ?_ _ | refine blk_drew ?_ | refine blk_alloc ?_ _)); refine blk_put (cs := #[.int .u64 (Go.bits .xor .u64 a0_0 8317987319222330741), .int .u64 (Go.bits .xor .u64 a0_1 7237128888997146477), .int .u64 0, .int .u64 0]) ?_ 2 _ rfl; (with_reducible repeat (first | refine blk_drewN ?_ _ | refine blk_drew ?_ | refine blk_alloc ?_ _)); refine blk_put (cs := #[.int .u64 (Go.bits .xor .u64 a0_0 8317987319222330741), .int .u64 0, .int .u64 0, .int .u64 0]) ?_ 1 _ rfl; (with_reducible repeat (first | refine blk_drewN ?_ _ | refine blk_drew ?_ | refine blk_alloc ?_ _)); refine blk_put (cs := #[.int .u64 0, .int .u64 0, .int .u64 0, .int .u64 0]) ?_ 0 _ rfl; (with_reducible repeat (first | refine blk_drewN ?_ _ | refine blk_drew ?_ | refine blk_alloc ?_ _)); exact BK466.out⟩, ⟨by repeat (first | (with_reducible first | exact HB.out | apply below_alloc | apply pw_below_drewN | apply below_drew1 | refine below_set ?_ GE465.out | refine below_set ?_ GE466.out) | exact HB.out)⟩⟩
  case round =>
    clear H'
    try clear c1
    try clear p2
    try clear c6
    try clear hcz4_0
    try clear hcz4_1
    try clear hcz7_0
    try clear hcz7_1
    try clear hcz7_2
    try clear hcz7_3
    try clear hfz4_0
    try clear hfz4_1
    try clear hfz7_0
    try clear hfz7_1
    try clear hfz7_2
    try clear hfz7_3
    obtain ⟨x6_1, x24_1, x467000_1, x467001_1, x467002_1, x467003_1, rfl, rfl, HA, HK1, BK465, BK466, HB⟩ := hrel
    cases gk with
    | zero => exact absurd HA.out (by simp [kauditref23_Sum.l0])
    | succ k1 =>
      have H := HA.out
      clear HA
      simp only [kauditref23_Sum.l0] at H
      by_cases c8 : x24_1 < (l1.length : Int)
      · rw [if_pos c8] at H
        have c8b0 : decide (x24_1 < (l1.length : Int)) = true := decide_eq_true c8
        clear c8
        by_cases c9 : 0 ≤ x24_1
        · rw [if_pos c9] at H
          have c9b0 : decide (0 ≤ x24_1) = true := decide_eq_true c9
          clear c9
          by_cases c10 : x24_1 < (l1.length : Int)
          · rw [if_pos c10] at H
            have c10b0 : decide (x24_1 < (l1.length : Int)) = true := decide_eq_true c10
            clear c10
            obtain ⟨ji11, hji11⟩ : ∃ j_ : Int, (wrap64 (8 * (Int.tmod x24_1 8))) = j_ := ⟨_, rfl⟩
            replace H : (if 0 ≤ (ji11) then (if (Int.tmod x24_1 8) = 7 then ((kauditref23_words_take.f x467000_1 x467001_1 x467002_1 x467003_1 (Go.bits .or .u64 x6_1 (shl .u64 (IntKind.u64.wrap (rd l1 x24_1)) (ji11)))).bind fun bt468 => (kauditref23_Sum.l0 k1 l1 0 l1 (l1.length : Int) (wrap64 (x24_1 + 1)) bt468.1 bt468.2.1 bt468.2.2.1 bt468.2.2.2)) else (kauditref23_Sum.l0 k1 l1 (Go.bits .or .u64 x6_1 (shl .u64 (IntKind.u64.wrap (rd l1 x24_1)) (ji11))) l1 (l1.length : Int) (wrap64 (x24_1 + 1)) x467000_1 x467001_1 x467002_1 x467003_1)) else (none)) = some r := by first | (rw [hji11] at H; exact H) | (simp only [hji11] at H ⊢; exact H)
            have hji11w : (IntKind.i64.wrap (8 * (Int.tmod x24_1 8))) = ji11 := (i64_w _).trans hji11
            by_cases c12 : 0 ≤ (ji11)
            · rw [if_pos c12] at H
              have c12b0 := eq_true c12
              have c12b1 : decide (0 ≤ (ji11)) = true := decide_eq_true c12
              clear c12
              obtain ⟨ji13, hji13⟩ : ∃ j_ : Int, (shl .u64 (IntKind.u64.wrap (rd l1 x24_1)) (ji11)) = j_ := ⟨_, rfl⟩
              replace H : (if (Int.tmod x24_1 8) = 7 then ((kauditref23_words_take.f x467000_1 x467001_1 x467002_1 x467003_1 (Go.bits .or .u64 x6_1 (ji13))).bind fun bt468 => (kauditref23_Sum.l0 k1 l1 0 l1 (l1.length : Int) (wrap64 (x24_1 + 1)) bt468.1 bt468.2.1 bt468.2.2.1 bt468.2.2.2)) else (kauditref23_Sum.l0 k1 l1 (Go.bits .or .u64 x6_1 (ji13)) l1 (l1.length : Int) (wrap64 (x24_1 + 1)) x467000_1 x467001_1 x467002_1 x467003_1)) = some r := by first | (rw [hji13] at H; exact H) | (simp only [hji13] at H ⊢; exact H)
              have hji13_ : (IntKind.u64.wrap ((IntKind.u64.wrap (rd l1 x24_1)) * 2 ^ min (ji11).toNat 64)) = ji13 := hji13
              have hji13z : (ji11) ≤ 64 → (IntKind.u64.wrap ((IntKind.u64.wrap (rd l1 x24_1)) * 2 ^ (ji11).toNat)) = ji13 := shl_small hji13
              by_cases c14 : (Int.tmod x24_1 8) = 7
              · rw [if_pos c14] at H
                have c14b0 : ((Int.tmod x24_1 8) == 7) = true := beq_iff_eq.mpr c14
                have c14b1 : ((Int.tmod x24_1 8) != 7) = false := bne_eq_false_iff_eq.mpr c14
                clear c14
                replace H := Option.bind_eq_some_iff.mp H
                obtain ⟨⟨t468, t469, t470, t471⟩, A150, H⟩ := H
                replace H : (kauditref23_Sum.l0 k1 l1 0 l1 (l1.length : Int) (wrap64 (x24_1 + 1)) t468 t469 t470 t471) = some r := H
                have A15 := Aside0.mk A150
                clear A150
                have H' := Aside0.mk H
                clear H
                have p467 : 0 ≤ (x24_1 : Int) := of_decide_eq_true (by first | (with_reducible assumption) | assumption)
                have q467 : x24_1 < (l1.length : Int) := of_decide_eq_true (by first | (with_reducible assumption) | assumption)
                obtain ⟨ad467, e467, hx467_0⟩ := Kd.at_int HR1.out x24_1 p467 q467
                cases e467
                replace hx467_0 := (HB.out.cell (World.block_lt_of_cell? w _ hx467_0)).trans hx467_0
                replace p467 := eq_true p467
                replace q467 := eq_true q467
                have hnb16 := NB466_465.out
                have hnc16 := NB465_466.out
                have hcz17_0 : wr.cell? ⟨gb466, 0, none⟩ = some (.int .u64 x467000_1) := (blk_cell BK466.out 0).trans rfl
                have hcz17_1 : wr.cell? ⟨gb466, 1, none⟩ = some (.int .u64 x467001_1) := (blk_cell BK466.out 1).trans rfl
                have hcz17_2 : wr.cell? ⟨gb466, 2, none⟩ = some (.int .u64 x467002_1) := (blk_cell BK466.out 2).trans rfl
                have hcz17_3 : wr.cell? ⟨gb466, 3, none⟩ = some (.int .u64 x467003_1) := (blk_cell BK466.out 3).trans rfl
                have hfz17_0 := blk_frozen BK466.out 0
                have hfz17_1 := blk_frozen BK466.out 1
                have hfz17_2 := blk_frozen BK466.out 2
                have hfz17_3 := blk_frozen BK466.out 3
                go_wp2_with (first | ((with_reducible refine gate_callee (f := 153) rfl ?_); refine goesL_ (some 42) rfl rfl Tryd.func153 (by kernel_rfl) rfl #[.agg #[.int .u64 x467000_1, .int .u64 x467001_1, .int .u64 x467002_1, .int .u64 x467003_1], .int .u64 (Go.bits .or .u64 x6_1 (ji13))] rfl (by (try simp only [List.map_toArray, List.map_cons, List.map_nil]); first | done | (simp only [hji13]; rfl) | rfl | (simp only [List.length_drop, List.length_take]; rfl)) ?_; (with_reducible refine (kauditref23_words_take.calls x467000_1 x467001_1 x467002_1 x467003_1 (Go.bits .or .u64 x6_1 (ji13)) t468 t469 t470 t471 _ A15.out).mono ?_); rintro e w18 ⟨rfl, hb⟩; refine ⟨_, rfl, ?_⟩; have n0_ := Aside0.mk (blk_below (g := gb465) (o := .cells #[.int .u64 a0_0, .int .u64 a0_1] 69 (0, 0)) (by (with_reducible repeat (first | refine blk_drewN ?_ _ | refine blk_drew ?_ | refine blk_alloc ?_ _)); exact BK465.out) hb); have n1_ := Aside0.mk (blk_below (g := gb466) (o := .cells #[.int .u64 x467000_1, .int .u64 x467001_1, .int .u64 x467002_1, .int .u64 x467003_1] 210 (0, 0)) (by (with_reducible repeat (first | refine blk_drewN ?_ _ | refine blk_drew ?_ | refine blk_alloc ?_ _)); exact BK466.out) hb); have n2_ := Aside0.mk (below_step (by repeat (first | (with_reducible first | exact HB.out | apply below_alloc | apply pw_below_drewN | apply below_drew1 | refine below_set ?_ GE465.out | refine below_set ?_ GE466.out) | exact HB.out)) hb); clear BK465; clear BK466; clear HB; have BK465 := n0_; have BK466 := n1_; have HB := n2_; clear n0_ n1_ n2_; (try clear hb); (try clear hb2); (try clear hk); (try clear hi); have hcz19_0 : w18.cell? ⟨gb466, 0, none⟩ = some (.int .u64 x467000_1) := (blk_cell BK466.out 0).trans rfl; have hcz19_1 : w18.cell? ⟨gb466, 1, none⟩ = some (.int .u64 x467001_1) := (blk_cell BK466.out 1).trans rfl; have hcz19_2 : w18.cell? ⟨gb466, 2, none⟩ = some (.int .u64 x467002_1) := (blk_cell BK466.out 2).trans rfl; have hcz19_3 : w18.cell? ⟨gb466, 3, none⟩ = some (.int .u64 x467003_1) := (blk_cell BK466.out 3).trans rfl; have hfz19_0 := blk_frozen BK466.out 0; have hfz19_1 := blk_frozen BK466.out 1; have hfz19_2 := blk_frozen BK466.out 2; have hfz19_3 := blk_frozen BK466.out 3))
                go_roundg k1
                case measure => have := HK1.out; omega
                case rel => exact ⟨(0), (wrap64 (x24_1 + 1)), (t468), (t469), (t470), (t471), (by first | rfl | (simp; done) | (simp [*]; done) | (simp only [isEmpty_ne_]; done)), (by first | rfl | (simp; done) | (simp [*]; done) | (simp only [isEmpty_ne_]; done)), (by first | exact H' | ((try subst hji11); (try subst hji13); exact H')), ⟨by have := HK1.out; omega⟩, ⟨by (with_reducible repeat (first | refine blk_drewN ?_ _ | refine blk_drew ?_ | refine blk_alloc ?_ _)); refine blk_far ?_ NB465_466.out _; (with_reducible repeat (first | refine blk_drewN ?_ _ | refine blk_drew ?_ | refine blk_alloc ?_ _)); refine blk_far ?_ NB465_466.out _; (with_reducible repeat (first | refine blk_drewN ?_ _ | refine blk_drew ?_ | refine blk_alloc ?_ _)); refine blk_far ?_ NB465_466.out _; (with_reducible repeat (first | refine blk_drewN ?_ _ | refine blk_drew ?_ | refine blk_alloc ?_ _)); refine blk_far ?_ NB465_466.out _; (with_reducible repeat (first | refine blk_drewN ?_ _ | refine blk_drew ?_ | refine blk_alloc ?_ _)); exact BK465.out⟩, ⟨by (with_reducible repeat (first | refine blk_drewN ?_ _ | refine blk_drew ?_ | refine blk_alloc ?_ _)); refine blk_put (cs := #[.int .u64 t468, .int .u64 t469, .int .u64 t470, .int .u64 x467003_1]) ?_ 3 _ rfl; (with_reducible repeat (first | refine blk_drewN ?_ _ | refine blk_drew ?_ | refine blk_alloc ?_ _)); refine blk_put (cs := #[.int .u64 t468, .int .u64 t469, .int .u64 x467002_1, .int .u64 x467003_1]) ?_ 2 _ rfl; (with_reducible repeat (first | refine blk_drewN ?_ _ | refine blk_drew ?_ | refine blk_alloc ?_ _)); refine blk_put (cs := #[.int .u64 t468, .int .u64 x467001_1, .int .u64 x467002_1, .int .u64 x467003_1]) ?_ 1 _ rfl; (with_reducible repeat (first | refine blk_drewN ?_ _ | refine blk_drew ?_ | refine blk_alloc ?_ _)); refine blk_put (cs := #[.int .u64 x467000_1, .int .u64 x467001_1, .int .u64 x467002_1, .int .u64 x467003_1]) ?_ 0 _ rfl; (with_reducible repeat (first | refine blk_drewN ?_ _ | refine blk_drew ?_ | refine blk_alloc ?_ _)); exact BK466.out⟩, ⟨by repeat (first | (with_reducible first | exact HB.out | apply below_alloc | apply pw_below_drewN | apply below_drew1 | refine below_set ?_ GE465.out | refine below_set ?_ GE466.out) | exact HB.out)⟩⟩
              · rw [if_neg c14] at H
                have c14b0 : ((Int.tmod x24_1 8) == 7) = false := beq_eq_false_iff_ne.mpr c14
                have c14b1 : ((Int.tmod x24_1 8) != 7) = true := bne_iff_ne.mpr c14
                have H' := Aside0.mk H
                clear H
                have p467 : 0 ≤ (x24_1 : Int) := of_decide_eq_true (by first | (with_reducible assumption) | assumption)
                have q467 : x24_1 < (l1.length : Int) := of_decide_eq_true (by first | (with_reducible assumption) | assumption)
                obtain ⟨ad467, e467, hx467_0⟩ := Kd.at_int HR1.out x24_1 p467 q467
                cases e467
                replace hx467_0 := (HB.out.cell (World.block_lt_of_cell? w _ hx467_0)).trans hx467_0
                replace p467 := eq_true p467
                replace q467 := eq_true q467
                go_wp2
                go_roundg k1
                case measure => have := HK1.out; omega
                case rel => exact ⟨(Go.bits .or .u64 x6_1 (ji13)), (wrap64 (x24_1 + 1)), (x467000_1), (x467001_1), (x467002_1), (x467003_1), (by first | rfl | (simp; done) | (simp only [← hji13] <;> (first | rfl | simp)) | (simp [*]; done)), (by first | rfl | (simp; done) | (simp [*]; done) | (simp only [isEmpty_ne_]; done)), (by first | exact H' | ((try subst hji11); (try subst hji13); exact H')), ⟨by have := HK1.out; omega⟩, ⟨by (with_reducible repeat (first | refine blk_drewN ?_ _ | refine blk_drew ?_ | refine blk_alloc ?_ _)); exact BK465.out⟩, ⟨by (with_reducible repeat (first | refine blk_drewN ?_ _ | refine blk_drew ?_ | refine blk_alloc ?_ _)); exact BK466.out⟩, ⟨by repeat (first | (with_reducible first | exact HB.out | apply below_alloc | apply pw_below_drewN | apply below_drew1 | refine below_set ?_ GE465.out | refine below_set ?_ GE466.out) | exact HB.out)⟩⟩
            · rw [if_neg c12] at H
              exact absurd H (by simp)
          · rw [if_neg c10] at H
            exact absurd H (by simp)
        · rw [if_neg c9] at H
          exact absurd H (by simp)
      · rw [if_neg c8] at H
        have c8b0 : decide (x24_1 < (l1.length : Int)) = false := decide_eq_false c8
        clear c8
        replace H := Option.bind_eq_some_iff.mp H
        obtain ⟨⟨t472, t473, t474, t475⟩, A200, H⟩ := H
        replace H : ((kauditref23_words_rounds.f t472 t473 (Go.bits .xor .u64 t474 255) t475 4).bind fun bt476 => (some (Go.bits .xor .u64 (Go.bits .xor .u64 (Go.bits .xor .u64 bt476.1 bt476.2.1) bt476.2.2.1) bt476.2.2.2))) = some r := H
        have A20 := Aside0.mk A200
        clear A200
        replace H := Option.bind_eq_some_iff.mp H
        obtain ⟨⟨t476, t477, t478, t479⟩, A210, H⟩ := H
        replace H : (some (Go.bits .xor .u64 (Go.bits .xor .u64 (Go.bits .xor .u64 t476 t477) t478) t479)) = some r := H
        have A21 := Aside0.mk A210
        clear A210
        obtain rfl := Option.some.inj H
        have hnb22 := NB466_465.out
        have hnc22 := NB465_466.out
        have hcz23_0 : wr.cell? ⟨gb466, 0, none⟩ = some (.int .u64 x467000_1) := (blk_cell BK466.out 0).trans rfl
        have hcz23_1 : wr.cell? ⟨gb466, 1, none⟩ = some (.int .u64 x467001_1) := (blk_cell BK466.out 1).trans rfl
        have hcz23_2 : wr.cell? ⟨gb466, 2, none⟩ = some (.int .u64 x467002_1) := (blk_cell BK466.out 2).trans rfl
        have hcz23_3 : wr.cell? ⟨gb466, 3, none⟩ = some (.int .u64 x467003_1) := (blk_cell BK466.out 3).trans rfl
        have hfz23_0 := blk_frozen BK466.out 0
        have hfz23_1 := blk_frozen BK466.out 1
        have hfz23_2 := blk_frozen BK466.out 2
        have hfz23_3 := blk_frozen BK466.out 3
        go_upto_region 12 with (first | ((with_reducible refine gate_callee (f := 153) rfl ?_); refine goesL_ (some 52) rfl rfl Tryd.func153 (by kernel_rfl) rfl #[.agg #[.int .u64 x467000_1, .int .u64 x467001_1, .int .u64 x467002_1, .int .u64 x467003_1], .int .u64 (Go.bits .or .u64 x6_1 (((l1.length : Int) % 256) * 72057594037927936))] rfl (by (try simp only [List.map_toArray, List.map_cons, List.map_nil]); first | done | rfl | (simp only [List.length_drop, List.length_take]; rfl)) ?_; (with_reducible refine (kauditref23_words_take.calls x467000_1 x467001_1 x467002_1 x467003_1 (Go.bits .or .u64 x6_1 (((l1.length : Int) % 256) * 72057594037927936)) t472 t473 t474 t475 _ A20.out).mono ?_); rintro e w24 ⟨rfl, hb⟩; refine ⟨_, rfl, ?_⟩; have n0_ := Aside0.mk (blk_below (g := gb465) (o := .cells #[.int .u64 a0_0, .int .u64 a0_1] 69 (0, 0)) (by (with_reducible repeat (first | refine blk_drewN ?_ _ | refine blk_drew ?_ | refine blk_alloc ?_ _)); exact BK465.out) hb); have n1_ := Aside0.mk (blk_below (g := gb466) (o := .cells #[.int .u64 x467000_1, .int .u64 x467001_1, .int .u64 x467002_1, .int .u64 x467003_1] 210 (0, 0)) (by (with_reducible repeat (first | refine blk_drewN ?_ _ | refine blk_drew ?_ | refine blk_alloc ?_ _)); exact BK466.out) hb); have n2_ := Aside0.mk (below_step (by repeat (first | (with_reducible first | exact HB.out | apply below_alloc | apply pw_below_drewN | apply below_drew1 | refine below_set ?_ GE465.out | refine below_set ?_ GE466.out) | exact HB.out)) hb); clear BK465; clear BK466; clear HB; have BK465 := n0_; have BK466 := n1_; have HB := n2_; clear n0_ n1_ n2_; (try clear hb); (try clear hb2); (try clear hk); (try clear hi); have hcz25_0 : w24.cell? ⟨gb466, 0, none⟩ = some (.int .u64 x467000_1) := (blk_cell BK466.out 0).trans rfl; have hcz25_1 : w24.cell? ⟨gb466, 1, none⟩ = some (.int .u64 x467001_1) := (blk_cell BK466.out 1).trans rfl; have hcz25_2 : w24.cell? ⟨gb466, 2, none⟩ = some (.int .u64 x467002_1) := (blk_cell BK466.out 2).trans rfl; have hcz25_3 : w24.cell? ⟨gb466, 3, none⟩ = some (.int .u64 x467003_1) := (blk_cell BK466.out 3).trans rfl; have hfz25_0 := blk_frozen BK466.out 0; have hfz25_1 := blk_frozen BK466.out 1; have hfz25_2 := blk_frozen BK466.out 2; have hfz25_3 := blk_frozen BK466.out 3))
        have b0_ := blk_put (cs' := #[.int .u64 t472, .int .u64 x467001_1, .int .u64 x467002_1, .int .u64 x467003_1]) BK466.out 0 (.int .u64 t472) rfl
        have b1_ := blk_put (cs' := #[.int .u64 t472, .int .u64 t473, .int .u64 x467002_1, .int .u64 x467003_1]) b0_ 1 (.int .u64 t473) rfl
        have b2_ := blk_put (cs' := #[.int .u64 t472, .int .u64 t473, .int .u64 t474, .int .u64 x467003_1]) b1_ 2 (.int .u64 t474) rfl
        have b3_ := blk_put (cs' := #[.int .u64 t472, .int .u64 t473, .int .u64 t474, .int .u64 t475]) b2_ 3 (.int .u64 t475) rfl
        have b4_ := blk_put (cs' := #[.int .u64 t472, .int .u64 t473, .int .u64 (Go.bits .xor .u64 t474 255), .int .u64 t475]) b3_ 2 (.int .u64 (Go.bits .xor .u64 t474 255)) rfl
        have n9_ : Aside0 (Below w.heap.size w (((((w24.setCell ⟨gb466, 0, none⟩ (.int .u64 t472)).setCell ⟨gb466, 1, none⟩ (.int .u64 t473)).setCell ⟨gb466, 2, none⟩ (.int .u64 t474)).setCell ⟨gb466, 3, none⟩ (.int .u64 t475)).setCell ⟨gb466, 2, none⟩ (.int .u64 (Go.bits .xor .u64 t474 255)))) := ⟨by repeat (first | exact HB.out | refine below_set ?_ GE466.out)⟩
        replace b4_ := Aside0.mk b4_
        clear b0_ b1_ b2_ b3_ HB BK466 BK465 hcz25_0 hcz25_1 hcz25_2 hcz25_3 hfz25_0 hfz25_1 hfz25_2 hfz25_3
        generalize (((((w24.setCell ⟨gb466, 0, none⟩ (.int .u64 t472)).setCell ⟨gb466, 1, none⟩ (.int .u64 t473)).setCell ⟨gb466, 2, none⟩ (.int .u64 t474)).setCell ⟨gb466, 3, none⟩ (.int .u64 t475)).setCell ⟨gb466, 2, none⟩ (.int .u64 (Go.bits .xor .u64 t474 255))) = w99 at b4_ n9_ ⊢
        have BK466 := b4_
        have HB := n9_
        clear b4_ n9_
        have hcz99_0 : w99.cell? ⟨gb466, 0, none⟩ = some (.int .u64 t472) := (blk_cell BK466.out 0).trans rfl
        have hcz99_1 : w99.cell? ⟨gb466, 1, none⟩ = some (.int .u64 t473) := (blk_cell BK466.out 1).trans rfl
        have hcz99_2 : w99.cell? ⟨gb466, 2, none⟩ = some (.int .u64 (Go.bits .xor .u64 t474 255)) := (blk_cell BK466.out 2).trans rfl
        have hcz99_3 : w99.cell? ⟨gb466, 3, none⟩ = some (.int .u64 t475) := (blk_cell BK466.out 3).trans rfl
        have hfz99_0 := blk_frozen BK466.out 0
        have hfz99_1 := blk_frozen BK466.out 1
        have hfz99_2 := blk_frozen BK466.out 2
        have hfz99_3 := blk_frozen BK466.out 3
        go_wp2_with (first | ((with_reducible refine gate_callee (f := 154) rfl ?_); refine goesL_ (some 58) rfl rfl Tryd.func154 (by kernel_rfl) rfl #[.agg #[.int .u64 t472, .int .u64 t473, .int .u64 (Go.bits .xor .u64 t474 255), .int .u64 t475], .int .i64 4] rfl (by (try simp only [List.map_toArray, List.map_cons, List.map_nil]); first | done | rfl | (simp only [List.length_drop, List.length_take]; rfl)) ?_; (with_reducible refine (kauditref23_words_rounds.calls t472 t473 (Go.bits .xor .u64 t474 255) t475 4 t476 t477 t478 t479 _ A21.out).mono ?_); rintro e w26 ⟨rfl, hb⟩; refine ⟨_, rfl, ?_⟩; have n1_ := Aside0.mk (blk_below BK466.out hb); have n2_ := Aside0.mk (below_step (by repeat (first | (with_reducible first | exact HB.out | apply below_alloc | apply pw_below_drewN | apply below_drew1 | refine below_set ?_ GE465.out | refine below_set ?_ GE466.out) | exact HB.out)) hb); clear BK466; clear HB; have BK466 := n1_; have HB := n2_; clear n1_ n2_; (try clear hb); (try clear hb2); (try clear hk); (try clear hi); have hcz27_0 : w26.cell? ⟨gb466, 0, none⟩ = some (.int .u64 t472) := (blk_cell BK466.out 0).trans rfl; have hcz27_1 : w26.cell? ⟨gb466, 1, none⟩ = some (.int .u64 t473) := (blk_cell BK466.out 1).trans rfl; have hcz27_2 : w26.cell? ⟨gb466, 2, none⟩ = some (.int .u64 (Go.bits .xor .u64 t474 255)) := (blk_cell BK466.out 2).trans rfl; have hcz27_3 : w26.cell? ⟨gb466, 3, none⟩ = some (.int .u64 t475) := (blk_cell BK466.out 3).trans rfl; have hfz27_0 := blk_frozen BK466.out 0; have hfz27_1 := blk_frozen BK466.out 1; have hfz27_2 := blk_frozen BK466.out 2; have hfz27_3 := blk_frozen BK466.out 3))
        go_ret
        exact ⟨by first | rfl | (simp [errW_none, errW_some] <;> rfl) | (simp [*, errW_none, errW_some] <;> rfl) | (simp only [isEmpty_ne_, isEmpty_eq_]; rfl) | (simp [*, isEmpty_ne_, isEmpty_eq_]; done), by repeat (first | (with_reducible first | exact HB.out | apply below_alloc | apply pw_below_drewN | apply below_drew1 | refine below_set ?_ GE465.out | refine below_set ?_ GE466.out) | exact HB.out)⟩
def kauditref23_Chain.f (k : Nat) (a0_0 : Int) (a0_1 : Int) (a1 : Int) (l2 : List Int) : Option (Int) := (kauditref23_Put.f k a1).bind fun t481 => (if t481.length + l2.length < 140737488355328 then ((kauditref23_Sum.f k a0_0 a0_1 (t481 ++ l2)).bind fun t487 => (some t487)) else (none))
theorem kauditref23_Chain.mono : ∀ a0 a1 a2 a3 k, LeO (kauditref23_Chain.f k a0 a1 a2 a3) (kauditref23_Chain.f (k + 1) a0 a1 a2 a3) := by
  intro a0 a1 a2 a3 k
  unfold kauditref23_Chain.f
  repeat' first
      | (with_reducible exact kauditref23_Put.mono _ _)
      | (with_reducible exact kauditref23_Sum.mono _ _ _ _)
      | (with_reducible exact LeO.refl _)
      | (with_reducible exact LeO.none _)
      | (with_reducible refine LeO.ite ?_ ?_)
      | (with_reducible refine LeO.bind ?_ (fun _ => ?_))
      | exact kauditref23_Put.mono _ _
      | exact kauditref23_Sum.mono _ _ _ _
      | exact LeO.none _
      | refine LeO.ite ?_ ?_
      | refine LeO.bind ?_ (fun _ => ?_)
set_option maxHeartbeats 8000000 in
set_option maxRecDepth 100000 in
theorem kauditref23_Chain.calls (k : Nat) (a0_0 : Int) (a0_1 : Int) (a1 : Int) (A2 : Option Addr) (c2 : Nat) (l2 : List Int) (r : Int) (w : World) (hr2 : Kd.C (Kd.int .u8) w A2 l2.length l2) (hc2 : l2.length ≤ c2) (h : kauditref23_Chain.f k a0_0 a0_1 a1 l2 = some r) :
    Calls Tryd.prog 87 #[.agg #[.int .u64 a0_0, .int .u64 a0_1], .int .u64 a1, .slice A2 l2.length c2] w fun e w' => e = .returned (.int .u64 r) ∧ Below w.heap.size w w' := by
  have hu69 := Tryd.underlying69
  have HR2 := Aside0.mk hr2
  have HC2 := Aside0.mk hc2
  clear hr2 hc2
  have HB := Aside0.mk (Below.refl w.heap.size w)
  have H : ((kauditref23_Put.f k a1).bind fun t481 => (if t481.length + l2.length < 140737488355328 then ((kauditref23_Sum.f k a0_0 a0_1 (t481 ++ l2)).bind fun t487 => (some t487)) else (none))) = some r := h
  clear h
  replace H := Option.bind_eq_some_iff.mp H
  obtain ⟨t481, A40, H⟩ := H
  replace H : (if t481.length + l2.length < 140737488355328 then ((kauditref23_Sum.f k a0_0 a0_1 (t481 ++ l2)).bind fun t487 => (some t487)) else (none)) = some r := H
  have A4 := Aside0.mk A40
  clear A40
  by_cases c5 : t481.length + l2.length < 140737488355328
  · rw [if_pos c5] at H
    have LMc5 := Aside0.mk c5
    clear c5
    obtain ⟨y484, hy484⟩ : ∃ y_ : List Int, y_ = (t481 ++ l2) := ⟨_, rfl⟩
    replace H : ((kauditref23_Sum.f k a0_0 a0_1 y484).bind fun t487 => (some t487)) = some r := by first | (rw [hy484]; with_reducible exact H) | (have H2_ := (Option.bind_some _ _).symm.trans H; rw [hy484]; with_reducible exact H2_) | (have H2_ := (Option.bind_some _ _).symm.trans H; with_reducible exact H2_) | with_reducible exact H | (rw [hy484]; exact H) | exact H
    have Ny484 := Aside0.mk hy484
    clear hy484
    replace H := Option.bind_eq_some_iff.mp H
    obtain ⟨t487, A60, H⟩ := H
    replace H : (some t487) = some r := H
    have A6 := Aside0.mk A60
    clear A60
    obtain rfl := Option.some.inj H
    go_enter Tryd.func87, Tryd.ntmps87
    try go_wp2_with (first | ((with_reducible refine gate_dst (N := 3) rfl ?_); refine box_event ?hg (N := 3) ?hd (cs := #[.int .u64 a0_0, .int .u64 a0_1]) (t := 69) ?hr ?_; (case hd => rfl); (case hg => rfl); (case hr => first | (go_simp; done) | (go_simp; rfl)); intro gb480 hg w7 hbox hb; have n0_ := Aside0.mk (below_step (by repeat (first | (with_reducible first | exact HB.out | apply below_alloc | apply pw_below_drewN | apply below_drew1) | exact HB.out)) hb); have n1_ := Aside0.mk (hbox); have n2_ := Aside0.mk ((by rw [hg]; exact (below_size (by repeat (first | (with_reducible first | exact HB.out | apply below_alloc | apply pw_below_drewN | apply below_drew1) | exact HB.out))) : w.heap.size ≤ gb480)); have n3_ := Aside0.mk ((by rw [hg]; exact (below_size (by repeat (first | (with_reducible first | exact HB.out | apply below_alloc | apply pw_below_drewN | apply below_drew1) | exact HB.out))) : w.heap.size ≤ gb480)); clear HB; have HB := n0_; have BK480 := n1_; have GW480 := n2_; have GE480 := n3_; clear n0_ n1_ n2_ n3_; clear hb hbox hg))
    have n0_ := Aside0.mk (blk_drew BK480.out)
    have n1_ := Aside0.mk (below_drew1 HB.out)
    clear BK480
    clear HB
    have BK480 := n0_
    have HB := n1_
    clear n0_ n1_
    refine start_ (n := 7) (S := fun w' => w'.cell? ⟨gb480, 0, none⟩ = some (.int .u64 a0_0) ∧ w'.cell? ⟨gb480, 1, none⟩ = some (.int .u64 a0_1)) (ds := []) #[false, false, false, false, false, false, false] (by kernel_rfl) rfl rfl ⟨(blk_cell BK480.out 0).trans rfl, (blk_cell BK480.out 1).trans rfl⟩ (fun hHeld => ?_)
    generalize w7.drew = w8 at BK480 HB hHeld ⊢
    refine pure_ (i := 1) (N := some 8) (v := ?_) (a' := ?_) #[false, true, false, false, false, false, false] rfl rfl (by kernel_rfl) (fun _ _ _ h => h) (Or.inl ⟨by rfl, ?_⟩) ?_ ?_
    rotate_left
    · intro w'
      go_simp
      with_reducible rfl
    rotate_left
    · simp only [Act.put, List.setIfInBounds_toArray, List.set_cons_zero, List.set_cons_succ, i64_w, i32_w]
      rfl
    refine pure_ (i := 3) (N := some 10) (v := ?_) (a' := ?_) #[false, true, false, true, false, false, false] rfl rfl (by kernel_rfl) (fun _ _ _ h => h) (Or.inl ⟨by rfl, ?_⟩) ?_ ?_
    rotate_left
    · intro w'
      go_simp
      with_reducible rfl
    rotate_left
    · simp only [Act.put, List.setIfInBounds_toArray, List.set_cons_zero, List.set_cons_succ, i64_w, i32_w]
      rfl
    refine take_ (i := 0) (N := some 7) (v := ?_) (a' := ?_) #[true, true, false, true, false, false, false] rfl rfl (by kernel_rfl) (fun _ _ _ h => h) (Or.inl ⟨by rfl, ?_⟩) hHeld ?_ ?_
    rotate_left
    · rintro w' ⟨s0, s1⟩
      go_simp
      with_reducible rfl
    rotate_left
    · simp only [Act.put, List.setIfInBounds_toArray, List.set_cons_zero, List.set_cons_succ, i64_w, i32_w]
      rfl
    refine one_ (i := 2) (N := some 9) #[true, true, true, true, false, false, false] rfl rfl (by kernel_rfl) (by decide) (fun K hK => ?_)
    refine goes_ Tryd.func88 (by kernel_rfl) rfl #[.int .u64 a1] (by rfl) rfl rfl (by (try simp only [List.map_toArray, List.map_cons, List.map_nil]); first | done | rfl | (simp only [List.length_drop, List.length_take]; rfl)) ?_
    with_reducible refine (kauditref23_Put.calls k a1 t481 _ A4.out).mono ?_
    rintro e w9 ⟨v482, rfl, ho0, hb⟩
    refine ⟨_, rfl, ?_⟩
    have n0_ := Aside0.mk (Kd.R_lower ho0 (below_size (by repeat (first | (with_reducible first | exact HB.out | apply below_alloc | apply pw_below_drewN | apply below_drew1 | refine below_set ?_ GE480.out) | exact HB.out))))
    have n1_ := Aside0.mk (blk_below (g := gb480) (o := .cells #[.int .u64 a0_0, .int .u64 a0_1] 69 (0, 0)) (by (with_reducible repeat (first | refine blk_drewN ?_ _ | refine blk_drew ?_ | refine blk_alloc ?_ _)); exact BK480.out) hb)
    have n2_ := Aside0.mk (below_step (by repeat (first | (with_reducible first | exact HB.out | apply below_alloc | apply pw_below_drewN | apply below_drew1 | refine below_set ?_ GE480.out) | exact HB.out)) hb)
    clear BK480
    clear HB
    have HO483 := n0_
    have BK480 := n1_
    have HB := n2_
    clear n0_ n1_ n2_
    (try clear hb)
    (try clear hb2)
    (try clear hk)
    (try clear hi)
    (try clear ho0)
    refine hK.out _ _ ⟨(blk_cell BK480.out 0).trans rfl, (blk_cell BK480.out 1).trans rfl⟩ (fun hHeld => ?_)
    clear hK K
    refine norm_ (a' := ?_) ?_ ?_
    rotate_left
    · show Act.put _ (some 9) _ = _
      simp only [Act.put, List.setIfInBounds_toArray, List.set_cons_zero, List.set_cons_succ, i64_w, i32_w]
      rfl
    refine one_ (i := 4) (N := some 11) #[true, true, true, true, true, false, false] rfl rfl (by kernel_rfl) (by decide) (fun K hK => ?_)
    refine Kd.R_append_rows_step (Kd.int .u8) (w0 := w) w.heap.size (by rfl) (.tmp 9) (.tmp 10) 22 5 (.int .u8 0) 1 rfl Tryd.underlying22 info5 rfl (by decide) (by omega) v482 t481 l2 _ _ _ (fun _ => True) (fun _ => False) rfl rfl ?aO ?aR (fun _ _ h => h) (fun _ h => h.elim) ?aF ?aB ?aS ?aL ?_
    (case aR => repeat (first | exact (Kd.C_below HR2.out HB.out) | (with_reducible refine Kd.C_alloc ?_ _) | (with_reducible refine Kd.C_drewN ?_ _) | (with_reducible refine Kd.C_drew ?_)))
    (case aB => exact (by repeat (first | (with_reducible first | exact HB.out | apply below_alloc | apply pw_below_drewN | apply below_drew1 | refine below_set ?_ GE480.out) | exact HB.out)))
    (case aF => exact (fun _ _ => trivial))
    (case aO => exact (by (with_reducible repeat (first | apply Kd.R_alloc | apply Kd.R_drewN | apply Kd.R_drew)); exact HO483.out))
    (case aS => exact (below_size (by repeat (first | (with_reducible first | exact HB.out | apply below_alloc | apply pw_below_drewN | apply below_drew1 | refine below_set ?_ GE480.out) | exact HB.out))))
    (case aL => have := LMc5.out; omega)
    intro v485 w10 ho hb hg hat
    rw [← Ny484.out] at ho
    have n0_ := Aside0.mk (blk_grown (g := gb480) (o := .cells #[.int .u64 a0_0, .int .u64 a0_1] 69 (0, 0)) (by (with_reducible repeat (first | refine blk_drewN ?_ _ | refine blk_drew ?_ | refine blk_alloc ?_ _)); exact BK480.out) hg (Kd.R_ne HO483.out BK480.out (by decide)))
    have n1_ := Aside0.mk (hb)
    have n2_ := Aside0.mk (ho)
    clear BK480
    clear HB
    clear HO483
    have BK480 := n0_
    have HB := n1_
    have HO486 := n2_
    clear n0_ n1_ n2_
    clear ho hb hg hat
    obtain ⟨Ao11, co11, eo11⟩ := Kd.R_slice HO486.out
    (first | subst eo11 | (injection eo11 with f1_ f2_ f3_; have f4_ := f1_.symm; have f5_ := f3_.symm; clear f1_ f2_ f3_; subst f4_; subst f5_))
    refine hK.out _ _ ⟨(blk_cell BK480.out 0).trans rfl, (blk_cell BK480.out 1).trans rfl⟩ (fun hHeld => ?_)
    clear hK K
    refine norm_ (a' := ?_) ?_ ?_
    rotate_left
    · show Act.put _ (some 11) _ = _
      simp only [Act.put, List.setIfInBounds_toArray, List.set_cons_zero, List.set_cons_succ, i64_w, i32_w]
      rfl
    refine one_ (i := 5) (N := some 12) #[true, true, true, true, true, true, false] rfl rfl (by kernel_rfl) (by decide) (fun K hK => ?_)
    refine goes_ Tryd.func125 (by kernel_rfl) rfl #[.agg #[.int .u64 a0_0, .int .u64 a0_1], .slice Ao11 y484.length co11] (by rfl) rfl rfl (by (try simp only [List.map_toArray, List.map_cons, List.map_nil]); first | done | rfl | (simp only [List.length_drop, List.length_take]; rfl)) ?_
    with_reducible refine (kauditref23_Sum.calls k a0_0 a0_1 _ _ y484 t487 _ ?side1 ?side2 A6.out).mono ?_
    (case side1 => repeat (first | exact (Kd.R_reads' HO486.out).2.2 | (with_reducible refine Kd.C_alloc ?_ _) | (with_reducible refine Kd.C_drewN ?_ _) | (with_reducible refine Kd.C_drew ?_)))
    (case side2 => exact (Kd.R_reads' HO486.out).2.1)
    rintro e w12 ⟨rfl, hb⟩
    refine ⟨_, rfl, ?_⟩
    have n0_ := Aside0.mk (Kd.R_below (by (with_reducible repeat (first | apply Kd.R_alloc | apply Kd.R_drewN | apply Kd.R_drew)); exact HO486.out) hb)
    have n1_ := Aside0.mk (blk_below (g := gb480) (o := .cells #[.int .u64 a0_0, .int .u64 a0_1] 69 (0, 0)) (by (with_reducible repeat (first | refine blk_drewN ?_ _ | refine blk_drew ?_ | refine blk_alloc ?_ _)); exact BK480.out) hb)
    have n2_ := Aside0.mk (below_step (by repeat (first | (with_reducible first | exact HB.out | apply below_alloc | apply pw_below_drewN | apply below_drew1 | refine below_set ?_ GE480.out) | exact HB.out)) hb)
    clear HO486
    clear BK480
    clear HB
    have HO486 := n0_
    have BK480 := n1_
    have HB := n2_
    clear n0_ n1_ n2_
    (try clear hb)
    (try clear hb2)
    (try clear hk)
    (try clear hi)
    refine hK.out _ _ ⟨(blk_cell BK480.out 0).trans rfl, (blk_cell BK480.out 1).trans rfl⟩ (fun hHeld => ?_)
    clear hK K
    refine norm_ (a' := ?_) ?_ ?_
    rotate_left
    · show Act.put _ (some 12) _ = _
      simp only [Act.put, List.setIfInBounds_toArray, List.set_cons_zero, List.set_cons_succ, i64_w, i32_w]
      rfl
    refine pure_ (i := 6) (N := some 6) (v := ?_) (a' := ?_) #[true, true, true, true, true, true, true] rfl rfl (by kernel_rfl) (fun _ _ _ h => h) (Or.inl ⟨by rfl, ?_⟩) ?_ ?_
    rotate_left
    · intro w'
      go_simp
      with_reducible rfl
    rotate_left
    · simp only [Act.put, List.setIfInBounds_toArray, List.set_cons_zero, List.set_cons_succ, i64_w, i32_w]
      rfl
    refine done_ (by kernel_rfl) ?_
    try go_wp2
    go_ret
    exact ⟨by first | rfl | (simp [errW_none, errW_some] <;> rfl) | (simp [*, errW_none, errW_some] <;> rfl) | (simp only [isEmpty_ne_, isEmpty_eq_]; rfl) | (simp [*, isEmpty_ne_, isEmpty_eq_]; done), by repeat (first | (with_reducible first | exact HB.out | apply below_alloc | apply pw_below_drewN | apply below_drew1 | refine below_set ?_ GE480.out) | exact HB.out)⟩
  · rw [if_neg c5] at H
    exact absurd H (by simp)
def kauditref25_Frame.j0 : Nat → Int → List Int → Int → Bool → Int → Int → Option (List Int × Int × Int)
  | 0, _, _, _, _, _, _ => none
  | k + 1, x1, x2, x9, x19, x489000, x489001 => if x19 = true then (some (([] : List Int), 0, 256)) else ((kauditref23_Chain.f k x489000 x489001 x1 x2).bind fun t489 => ((some (([(x9 / 16777216) % 256, (x9 / 65536) % 256, (x9 / 256) % 256, (x9) % 256] : List Int) : List Int)).bind fun y490 => (if y490.length + x2.length < 140737488355328 then ((some (y490 ++ x2 : List Int)).bind fun y493 => ((kauditref23_Put.f k t489).bind fun t496 => (if y493.length + t496.length < 140737488355328 then (some ((y493 ++ t496), t489, 0)) else (none)))) else (none))))
def kauditref25_Frame.f (k : Nat) (a0_0 : Int) (a0_1 : Int) (a1 : Int) (l2 : List Int) : Option (List Int × Int × Int) := if (l2.length : Int) < 1 then (kauditref25_Frame.j0 k a1 l2 (l2.length : Int) true a0_0 a0_1) else (kauditref25_Frame.j0 k a1 l2 (l2.length : Int) (decide ((l2.length : Int) > 16384)) a0_0 a0_1)
theorem kauditref25_Frame.mono_l : ∀ k, (∀ y0 y1 y2 y3 y4 y5, LeO (kauditref25_Frame.j0 k y0 y1 y2 y3 y4 y5) (kauditref25_Frame.j0 (k + 1) y0 y1 y2 y3 y4 y5))
  | 0 => fun _ _ _ _ _ _ r h => by simp [kauditref25_Frame.j0] at h
  | k + 1 => by
    have ih0 := kauditref25_Frame.mono_l k
    · intro y0 y1 y2 y3 y4 y5
      unfold kauditref25_Frame.j0
      repeat' first
      | (with_reducible exact ih0 _ _ _ _ _ _)
      | (with_reducible exact kauditref23_Chain.mono _ _ _ _ _)
      | (with_reducible exact kauditref23_Put.mono _ _)
      | (with_reducible exact LeO.refl _)
      | (with_reducible exact LeO.none _)
      | (with_reducible refine LeO.ite ?_ ?_)
      | (with_reducible refine LeO.bind ?_ (fun _ => ?_))
      | exact ih0 _ _ _ _ _ _
      | exact kauditref23_Chain.mono _ _ _ _ _
      | exact kauditref23_Put.mono _ _
      | exact LeO.none _
      | refine LeO.ite ?_ ?_
      | refine LeO.bind ?_ (fun _ => ?_)
theorem kauditref25_Frame.mono : ∀ a0 a1 a2 a3 k, LeO (kauditref25_Frame.f k a0 a1 a2 a3) (kauditref25_Frame.f (k + 1) a0 a1 a2 a3) := by
  intro a0 a1 a2 a3 k
  have ih0 := kauditref25_Frame.mono_l k
  unfold kauditref25_Frame.f
  repeat' first
      | (with_reducible exact ih0 _ _ _ _ _ _)
      | (with_reducible exact kauditref23_Chain.mono _ _ _ _ _)
      | (with_reducible exact kauditref23_Put.mono _ _)
      | (with_reducible exact LeO.refl _)
      | (with_reducible exact LeO.none _)
      | (with_reducible refine LeO.ite ?_ ?_)
      | (with_reducible refine LeO.bind ?_ (fun _ => ?_))
      | exact ih0 _ _ _ _ _ _
      | exact kauditref23_Chain.mono _ _ _ _ _
      | exact kauditref23_Put.mono _ _
      | exact LeO.none _
      | refine LeO.ite ?_ ?_
      | refine LeO.bind ?_ (fun _ => ?_)
set_option maxHeartbeats 8000000 in
set_option maxRecDepth 100000 in
theorem kauditref25_Frame.calls (k : Nat) (a0_0 : Int) (a0_1 : Int) (a1 : Int) (A2 : Option Addr) (c2 : Nat) (l2 : List Int) (r1 : List Int) (r2 : Int) (r3 : Int) (w : World) (hr2 : Kd.C (Kd.int .u8) w A2 l2.length l2) (hc2 : l2.length ≤ c2) (h : kauditref25_Frame.f k a0_0 a0_1 a1 l2 = some (r1, r2, r3)) :
    Calls Tryd.prog 49 #[.agg #[.int .u64 a0_0, .int .u64 a0_1], .int .u64 a1, .slice A2 l2.length c2] w fun e w' => ∃ v0_ : Value, e = .returned (.tuple #[v0_, .int .u64 r2, .int .i64 r3]) ∧ Kd.R (Kd.int .u8) 5 w' w.heap.size (fun _ => True) v0_ r1 ∧ Below w.heap.size w w' := by
  have hu69 := Tryd.underlying69
  have HR2 := Aside0.mk hr2
  have HC2 := Aside0.mk hc2
  clear hr2 hc2
  have HB := Aside0.mk (Below.refl w.heap.size w)
  have H : (if (l2.length : Int) < 1 then (kauditref25_Frame.j0 k a1 l2 (l2.length : Int) true a0_0 a0_1) else (kauditref25_Frame.j0 k a1 l2 (l2.length : Int) (decide ((l2.length : Int) > 16384)) a0_0 a0_1)) = some (r1, r2, r3) := h
  clear h
  have HC4 := Aside0.mk H
  clear H
  go_enter Tryd.func49, Tryd.ntmps49
  go_upto_region 2 with (first | ((with_reducible refine gate_dst (N := 3) rfl ?_); refine box_event ?hg (N := 3) ?hd (cs := #[.int .u64 a0_0, .int .u64 a0_1]) (t := 69) ?hr ?_; (case hd => rfl); (case hg => rfl); (case hr => first | (go_simp; done) | (go_simp; rfl)); intro gb488 hg w5 hbox hb; have n0_ := Aside0.mk (below_step (by repeat (first | (with_reducible first | exact HB.out | apply below_alloc | apply pw_below_drewN | apply below_drew1) | exact HB.out)) hb); have n1_ := Aside0.mk (hbox); have n2_ := Aside0.mk ((by rw [hg]; exact (below_size (by repeat (first | (with_reducible first | exact HB.out | apply below_alloc | apply pw_below_drewN | apply below_drew1) | exact HB.out))) : w.heap.size ≤ gb488)); have n3_ := Aside0.mk ((by rw [hg]; exact (below_size (by repeat (first | (with_reducible first | exact HB.out | apply below_alloc | apply pw_below_drewN | apply below_drew1) | exact HB.out))) : w.heap.size ≤ gb488)); clear HB; have HB := n0_; have BK488 := n1_; have GW488 := n2_; have GE488 := n3_; clear n0_ n1_ n2_ n3_; clear hb hbox hg))
  (try simp only [Act.put, List.setIfInBounds_toArray, List.set_cons_zero, List.set_cons_succ])
  go_cut [19] (fun v19 wc => ∃ (kq : Nat) (x19_3 : Bool), v19 = .bool x19_3 ∧ Aside0 (kauditref25_Frame.j0 kq a1 l2 (l2.length : Int) x19_3 a0_0 a0_1 = some (r1, r2, r3)) ∧ Aside0 (kq ≤ k) ∧ Aside0 (wc.heap[gb488]? = some (.cells #[.int .u64 a0_0, .int .u64 a0_1] 69 (0, 0))) ∧ Aside0 (Below w.heap.size w wc))
  case first =>
    have H := HC4.out
    clear HC4
    by_cases c6 : (l2.length : Int) < 1
    · rw [if_pos c6] at H
      have c6b0 : decide ((l2.length : Int) < 1) = true := decide_eq_true c6
      have c6b1 : decide (l2.length < 1) = true := decide_eq_true (by omega)
      clear c6
      (first | rw [c6b0] | (simp only [i64_w, i32_w]; rw [c6b0]) | skip)
      have H' := Aside0.mk H
      clear H
      go_wp2
      go_meet
      case rel => exact ⟨_, (true), (by first | rfl | (simp; done) | (simp [*]; done) | (simp only [isEmpty_ne_]; done)), H', ⟨by first | omega | exact Nat.le_refl _⟩, ⟨by (with_reducible repeat (first | refine blk_drewN ?_ _ | refine blk_drew ?_ | refine blk_alloc ?_ _)); exact BK488.out⟩, ⟨by repeat (first | (with_reducible first | exact HB.out | apply below_alloc | apply pw_below_drewN | apply below_drew1 | refine below_set ?_ GE488.out) | exact HB.out)⟩⟩
    · rw [if_neg c6] at H
      have c6b0 : decide ((l2.length : Int) < 1) = false := decide_eq_false c6
      have c6b1 : decide (l2.length < 1) = false := decide_eq_false (by omega)
      clear c6
      (first | rw [c6b0] | (simp only [i64_w, i32_w]; rw [c6b0]) | skip)
      have H' := Aside0.mk H
      clear H
      go_wp2
      go_meet
      case rel => exact ⟨_, (decide ((l2.length : Int) > 16384)), (by first | rfl | (simp; done) | (simp [*]; done) | (simp only [isEmpty_ne_]; done)), H', ⟨by first | omega | exact Nat.le_refl _⟩, ⟨by (with_reducible repeat (first | refine blk_drewN ?_ _ | refine blk_drew ?_ | refine blk_alloc ?_ _)); exact BK488.out⟩, ⟨by repeat (first | (with_reducible first | exact HB.out | apply below_alloc | apply pw_below_drewN | apply below_drew1 | refine below_set ?_ GE488.out) | exact HB.out)⟩⟩
  case rest =>
    clear HC4
    try clear c2
    try clear p2
    try clear c4
    try clear c6
    try clear c6b0
    try clear c6b1
    obtain ⟨kq, x19_3, rfl, HA, HJ3, BK488, HB⟩ := hcut
    cases kq with
    | zero => exact absurd HA.out (by simp [kauditref25_Frame.j0])
    | succ kj3 =>
      have H := HA.out
      clear HA
      simp only [kauditref25_Frame.j0] at H
      by_cases c7 : x19_3 = true
      · subst c7
        have H1 : (some (([] : List Int), 0, 256)) = some (r1, r2, r3) := by rw [if_pos rfl] at H; exact H
        clear H
        have H := H1
        clear H1
        simp only [Option.some.injEq, Prod.mk.injEq] at H
        obtain ⟨rfl, rfl, rfl⟩ := H
        go_wp2
        go_ret3
        exact ⟨_, by first | rfl | (simp [errW_none, errW_some] <;> rfl) | (simp [*, errW_none, errW_some] <;> rfl) | (simp only [isEmpty_ne_, isEmpty_eq_]; rfl) | (simp [*, isEmpty_ne_, isEmpty_eq_]; done), by first | exact Kd.R_nil _ _ _ _ _ | exact Kd.N_nil _ _ _ _ _ | exact Kd.V_nil _ _ _ _ _ | exact Kd.Q_nil _ _ _ _ _ | exact Kd.S_nil _ _ _ _ _, by repeat (first | (with_reducible first | exact HB.out | apply below_alloc | apply pw_below_drewN | apply below_drew1 | refine below_set ?_ GE488.out) | exact HB.out)⟩
      · replace c7 := Bool.eq_false_iff.mpr c7
        subst c7
        have H1 : ((kauditref23_Chain.f kj3 a0_0 a0_1 a1 l2).bind fun t489 => ((some (([((l2.length : Int) / 16777216) % 256, ((l2.length : Int) / 65536) % 256, ((l2.length : Int) / 256) % 256, ((l2.length : Int)) % 256] : List Int) : List Int)).bind fun y490 => (if y490.length + l2.length < 140737488355328 then ((some (y490 ++ l2 : List Int)).bind fun y493 => ((kauditref23_Put.f kj3 t489).bind fun t496 => (if y493.length + t496.length < 140737488355328 then (some ((y493 ++ t496), t489, 0)) else (none)))) else (none)))) = some (r1, r2, r3) := by rw [if_neg (show ¬ (false = true) by decide)] at H; exact H
        clear H
        have H := H1
        clear H1
        replace H := Option.bind_eq_some_iff.mp H
        obtain ⟨t489, A80, H⟩ := H
        replace H : ((some (([((l2.length : Int) / 16777216) % 256, ((l2.length : Int) / 65536) % 256, ((l2.length : Int) / 256) % 256, ((l2.length : Int)) % 256] : List Int) : List Int)).bind fun y490 => (if y490.length + l2.length < 140737488355328 then ((some (y490 ++ l2 : List Int)).bind fun y493 => ((kauditref23_Put.f kj3 t489).bind fun t496 => (if y493.length + t496.length < 140737488355328 then (some ((y493 ++ t496), t489, 0)) else (none)))) else (none))) = some (r1, r2, r3) := H
        have A8 := Aside0.mk A80
        clear A80
        obtain ⟨y490, hy490⟩ : ∃ y_ : List Int, y_ = (([((l2.length : Int) / 16777216) % 256, ((l2.length : Int) / 65536) % 256, ((l2.length : Int) / 256) % 256, ((l2.length : Int)) % 256] : List Int)) := ⟨_, rfl⟩
        replace H : (if y490.length + l2.length < 140737488355328 then ((some (y490 ++ l2 : List Int)).bind fun y493 => ((kauditref23_Put.f kj3 t489).bind fun t496 => (if y493.length + t496.length < 140737488355328 then (some ((y493 ++ t496), t489, 0)) else (none)))) else (none)) = some (r1, r2, r3) := by first | (rw [hy490]; with_reducible exact H) | (have H2_ := (Option.bind_some _ _).symm.trans H; rw [hy490]; with_reducible exact H2_) | (have H2_ := (Option.bind_some _ _).symm.trans H; with_reducible exact H2_) | with_reducible exact H | (rw [hy490]; exact H) | exact H
        have Ny490 := Aside0.mk hy490
        clear hy490
        by_cases c9 : y490.length + l2.length < 140737488355328
        · rw [if_pos c9] at H
          have LMc9 := Aside0.mk c9
          clear c9
          obtain ⟨y493, hy493⟩ : ∃ y_ : List Int, y_ = (y490 ++ l2) := ⟨_, rfl⟩
          replace H : ((kauditref23_Put.f kj3 t489).bind fun t496 => (if y493.length + t496.length < 140737488355328 then (some ((y493 ++ t496), t489, 0)) else (none))) = some (r1, r2, r3) := by first | (rw [hy493]; with_reducible exact H) | (have H2_ := (Option.bind_some _ _).symm.trans H; rw [hy493]; with_reducible exact H2_) | (have H2_ := (Option.bind_some _ _).symm.trans H; with_reducible exact H2_) | with_reducible exact H | (rw [hy493]; exact H) | exact H
          have Ny493 := Aside0.mk hy493
          clear hy493
          replace H := Option.bind_eq_some_iff.mp H
          obtain ⟨t496, A100, H⟩ := H
          replace H : (if y493.length + t496.length < 140737488355328 then (some ((y493 ++ t496), t489, 0)) else (none)) = some (r1, r2, r3) := H
          have A10 := Aside0.mk A100
          clear A100
          by_cases c11 : y493.length + t496.length < 140737488355328
          · rw [if_pos c11] at H
            have LMc11 := Aside0.mk c11
            clear c11
            obtain ⟨y499, hy499⟩ : ∃ y_ : List Int, y_ = (y493 ++ t496) := ⟨_, rfl⟩
            replace H : (some (y499, t489, 0)) = some (r1, r2, r3) := by first | (rw [hy499]; with_reducible exact H) | (have H2_ := (Option.bind_some _ _).symm.trans H; rw [hy499]; with_reducible exact H2_) | (have H2_ := (Option.bind_some _ _).symm.trans H; with_reducible exact H2_) | with_reducible exact H | (rw [hy499]; exact H) | exact H
            have Ny499 := Aside0.mk hy499
            clear hy499
            simp only [Option.some.injEq, Prod.mk.injEq] at H
            obtain ⟨rfl, rfl, rfl⟩ := H
            have hcz12_0 : wc.cell? ⟨gb488, 0, none⟩ = some (.int .u64 a0_0) := (blk_cell BK488.out 0).trans rfl
            have hcz12_1 : wc.cell? ⟨gb488, 1, none⟩ = some (.int .u64 a0_1) := (blk_cell BK488.out 1).trans rfl
            have hfz12_0 := blk_frozen BK488.out 0
            have hfz12_1 := blk_frozen BK488.out 1
            go_wp2_with (first | ((with_reducible refine gate_callee (f := 87) rfl ?_); refine goesL_ (some 23) rfl rfl Tryd.func87 (by kernel_rfl) rfl #[.agg #[.int .u64 a0_0, .int .u64 a0_1], .int .u64 a1, .slice A2 l2.length c2] rfl (by (try simp only [List.map_toArray, List.map_cons, List.map_nil]); first | done | rfl | (simp only [List.length_drop, List.length_take]; rfl)) ?_; (with_reducible refine (kauditref23_Chain.calls kj3 a0_0 a0_1 a1 _ _ l2 t489 _ ?side1 ?side2 A8.out).mono ?_); (case side1 => repeat (first | exact (Kd.C_below HR2.out HB.out) | (with_reducible refine Kd.C_alloc ?_ _) | (with_reducible refine Kd.C_drewN ?_ _) | (with_reducible refine Kd.C_drew ?_))); (case side2 => exact HC2.out); rintro e w13 ⟨rfl, hb⟩; refine ⟨_, rfl, ?_⟩; have n0_ := Aside0.mk (blk_below (g := gb488) (o := .cells #[.int .u64 a0_0, .int .u64 a0_1] 69 (0, 0)) (by (with_reducible repeat (first | refine blk_drewN ?_ _ | refine blk_drew ?_ | refine blk_alloc ?_ _)); exact BK488.out) hb); have n1_ := Aside0.mk (below_step (by repeat (first | (with_reducible first | exact HB.out | apply below_alloc | apply pw_below_drewN | apply below_drew1 | refine below_set ?_ GE488.out) | exact HB.out)) hb); clear BK488; clear HB; have BK488 := n0_; have HB := n1_; clear n0_ n1_; (try clear hb); (try clear hb2); (try clear hk); (try clear hi)) | ((with_reducible refine gate_dst (N := 35) rfl ?_); refine Kd.R_lit (Kd.int .u8) _ 5 ?hg (N := 35) ?hd (xs := ([((l2.length : Int) / 16777216) % 256, ((l2.length : Int) / 65536) % 256, ((l2.length : Int) / 256) % 256, ((l2.length : Int)) % 256] : List Int)) (inner := [.int .u8 (((l2.length : Int) / 16777216) % 256), .int .u8 (((l2.length : Int) / 65536) % 256), .int .u8 (((l2.length : Int) / 256) % 256), .int .u8 (((l2.length : Int)) % 256)]) (ok := fun _ => True) (okp := fun _ => True) ?hr ?hp (fun _ hk => hk) trivial (Below.refl _ _) (Nat.le_refl _) (by simp) ?_; (case hd => rfl); (case hg => rfl); (case hr => first | (go_simp; done) | (go_simp; rfl)); (case hp => exact (Reps.one (show Kd.M (Kd.int .u8) _ _ _ (((l2.length : Int) / 16777216) % 256) [.int .u8 (((l2.length : Int) / 16777216) % 256)] from rfl) (Reps.one (show Kd.M (Kd.int .u8) _ _ _ (((l2.length : Int) / 65536) % 256) [.int .u8 (((l2.length : Int) / 65536) % 256)] from rfl) (Reps.one (show Kd.M (Kd.int .u8) _ _ _ (((l2.length : Int) / 256) % 256) [.int .u8 (((l2.length : Int) / 256) % 256)] from rfl) (Reps.one (show Kd.M (Kd.int .u8) _ _ _ (((l2.length : Int)) % 256) [.int .u8 (((l2.length : Int)) % 256)] from rfl) (Reps.none _ _)))))); intro v491 w14 ho15 hb hg_ hnew_; clear hg_ hnew_; (first | rw [← Ny490.out] at ho15 | (simp only [Int.reduceToNat] at ho15; rw [← Ny490.out] at ho15)); have n0_ := Aside0.mk (Kd.R_lower ho15 (below_size (by repeat (first | (with_reducible first | exact HB.out | apply below_alloc | apply pw_below_drewN | apply below_drew1 | refine below_set ?_ GE488.out) | exact HB.out)))); have n1_ := Aside0.mk (blk_below (g := gb488) (o := .cells #[.int .u64 a0_0, .int .u64 a0_1] 69 (0, 0)) (by (with_reducible repeat (first | refine blk_drewN ?_ _ | refine blk_drew ?_ | refine blk_alloc ?_ _)); exact BK488.out) hb); have n2_ := Aside0.mk (below_step (by repeat (first | (with_reducible first | exact HB.out | apply below_alloc | apply pw_below_drewN | apply below_drew1 | refine below_set ?_ GE488.out) | exact HB.out)) hb); clear BK488; clear HB; have HO492 := n0_; have BK488 := n1_; have HB := n2_; clear n0_ n1_ n2_; clear hb ho15) | ((with_reducible refine gate_builtin (b := .append) (xs := #[.tmp 35, .tmp 36]) rfl ?_); at_builtin; refine Kd.R_append_rows (Kd.int .u8) (w0 := w) w.heap.size rfl (.tmp 35) (.tmp 36) 22 5 (.int .u8 0) 1 rfl Tryd.underlying22 info5 rfl (by decide) (by omega) v491 y490 l2 _ _ _ (fun _ => True) (fun _ => False) rfl rfl ?aO ?aR (fun _ _ h => h) (fun _ h => h.elim) ?aF ?aB ?aS ?aL ?_; (case aR => repeat (first | exact (Kd.C_below HR2.out HB.out) | (with_reducible refine Kd.C_alloc ?_ _) | (with_reducible refine Kd.C_drewN ?_ _) | (with_reducible refine Kd.C_drew ?_))); (case aB => exact (by repeat (first | (with_reducible first | exact HB.out | apply below_alloc | apply pw_below_drewN | apply below_drew1 | refine below_set ?_ GE488.out) | exact HB.out))); (case aF => exact (fun _ _ => trivial)); (case aO => exact (by (with_reducible repeat (first | apply Kd.R_alloc | apply Kd.R_drewN | apply Kd.R_drew)); exact HO492.out)); (case aS => exact (below_size (by repeat (first | (with_reducible first | exact HB.out | apply below_alloc | apply pw_below_drewN | apply below_drew1 | refine below_set ?_ GE488.out) | exact HB.out)))); (case aL => have := LMc9.out; omega); intro v494 w16 ho hb hg hat; rw [← Ny493.out] at ho; have n0_ := Aside0.mk (blk_grown (g := gb488) (o := .cells #[.int .u64 a0_0, .int .u64 a0_1] 69 (0, 0)) (by (with_reducible repeat (first | refine blk_drewN ?_ _ | refine blk_drew ?_ | refine blk_alloc ?_ _)); exact BK488.out) hg (Kd.R_ne HO492.out BK488.out (by decide))); have n1_ := Aside0.mk (hb); have n2_ := Aside0.mk (ho); clear BK488; clear HB; clear HO492; have BK488 := n0_; have HB := n1_; have HO495 := n2_; clear n0_ n1_ n2_; clear ho hb hg hat) | ((with_reducible refine gate_callee (f := 88) rfl ?_); refine goesL_ (some 40) rfl rfl Tryd.func88 (by kernel_rfl) rfl #[.int .u64 t489] rfl (by (try simp only [List.map_toArray, List.map_cons, List.map_nil]); first | done | rfl | (simp only [List.length_drop, List.length_take]; rfl)) ?_; (with_reducible refine (kauditref23_Put.calls kj3 t489 t496 _ A10.out).mono ?_); rintro e w17 ⟨v497, rfl, ho0, hb⟩; refine ⟨_, rfl, ?_⟩; have n0_ := Aside0.mk (Kd.R_elder' (by (with_reducible repeat (first | apply Kd.R_alloc | apply Kd.R_drewN | apply Kd.R_drew)); exact HO495.out) (Kd.R_base ho0) hb); have n1_ := Aside0.mk (Kd.R_lower (Kd.R_new' ho0 (Kd.R_lt (by (with_reducible repeat (first | apply Kd.R_alloc | apply Kd.R_drewN | apply Kd.R_drew)); exact HO495.out))) (below_size (by repeat (first | (with_reducible first | exact HB.out | apply below_alloc | apply pw_below_drewN | apply below_drew1 | refine below_set ?_ GE488.out) | exact HB.out)))); have n2_ := Aside0.mk (blk_below (g := gb488) (o := .cells #[.int .u64 a0_0, .int .u64 a0_1] 69 (0, 0)) (by (with_reducible repeat (first | refine blk_drewN ?_ _ | refine blk_drew ?_ | refine blk_alloc ?_ _)); exact BK488.out) hb); have n3_ := Aside0.mk (below_step (by repeat (first | (with_reducible first | exact HB.out | apply below_alloc | apply pw_below_drewN | apply below_drew1 | refine below_set ?_ GE488.out) | exact HB.out)) hb); clear HO495; clear BK488; clear HB; have HO495 := n0_; have HO498 := n1_; have BK488 := n2_; have HB := n3_; clear n0_ n1_ n2_ n3_; (try clear hb); (try clear hb2); (try clear hk); (try clear hi); (try clear ho0); obtain ⟨Ao19, co19, eo19⟩ := Kd.R_slice HO498.out; subst eo19) | ((with_reducible refine gate_builtin (b := .append) (xs := #[.tmp 38, .tmp 40]) rfl ?_); at_builtin; refine Kd.R_append_rows (Kd.int .u8) (w0 := w) w.heap.size rfl (.tmp 38) (.tmp 40) 22 5 (.int .u8 0) 1 rfl Tryd.underlying22 info5 rfl (by decide) (by omega) v494 y493 t496 _ _ _ (fun k_ => some k_ ≠ (.slice Ao19 t496.length co19 : Value).ownBlock) (fun _ => False) rfl rfl ?aO ?aR (fun _ _ h => h) (fun _ h => h.elim) ?aF ?aB ?aS ?aL ?_; (case aR => repeat (first | exact (Kd.R_reads' HO498.out).2.2 | (with_reducible refine Kd.C_alloc ?_ _) | (with_reducible refine Kd.C_drewN ?_ _) | (with_reducible refine Kd.C_drew ?_))); (case aB => exact (by repeat (first | (with_reducible first | exact HB.out | apply below_alloc | apply pw_below_drewN | apply below_drew1 | refine below_set ?_ GE488.out) | exact HB.out))); (case aF => exact (fun k_ hk => Kd.fresh' (Kd.R_lt (by (with_reducible repeat (first | apply Kd.R_alloc | apply Kd.R_drewN | apply Kd.R_drew)); exact HO498.out)) k_ hk)); (case aO => exact (by (with_reducible repeat (first | apply Kd.R_alloc | apply Kd.R_drewN | apply Kd.R_drew)); exact Kd.R_mono HO495.out (fun _ hk => hk.2))); (case aS => exact (below_size (by repeat (first | (with_reducible first | exact HB.out | apply below_alloc | apply pw_below_drewN | apply below_drew1 | refine below_set ?_ GE488.out) | exact HB.out)))); (case aL => have := LMc11.out; omega); intro v500 w18 ho hb hg hat; rw [← Ny499.out] at ho; have n0_ := Aside0.mk (blk_grown (g := gb488) (o := .cells #[.int .u64 a0_0, .int .u64 a0_1] 69 (0, 0)) (by (with_reducible repeat (first | refine blk_drewN ?_ _ | refine blk_drew ?_ | refine blk_alloc ?_ _)); exact BK488.out) hg (Kd.R_ne HO495.out BK488.out (by decide))); have n1_ := Aside0.mk (Kd.R_after (ok := (fun _ => True)) (by (with_reducible repeat (first | apply Kd.R_alloc | apply Kd.R_drewN | apply Kd.R_drew)); exact HO498.out) hg hat); have n2_ := Aside0.mk (hb); have n3_ := Aside0.mk (ho); clear BK488; clear HO498; clear HB; clear HO495; have BK488 := n0_; have HO498 := n1_; have HB := n2_; have HO501 := n3_; clear n0_ n1_ n2_ n3_; clear ho hb hg hat))
            go_ret3
            exact ⟨_, by first | rfl | (simp [errW_none, errW_some] <;> rfl) | (simp [*, errW_none, errW_some] <;> rfl) | (simp only [isEmpty_ne_, isEmpty_eq_]; rfl) | (simp [*, isEmpty_ne_, isEmpty_eq_]; done), by (with_reducible repeat (first | apply Kd.R_alloc | apply Kd.R_drewN | apply Kd.R_drew)); exact Kd.R_mono HO501.out (fun _ hk => trivial), by repeat (first | (with_reducible first | exact HB.out | apply below_alloc | apply pw_below_drewN | apply below_drew1 | refine below_set ?_ GE488.out) | exact HB.out)⟩
          · rw [if_neg c11] at H
            exact absurd H (by simp)
        · rw [if_neg c9] at H
          exact absurd H (by simp)
def kauditref24_SameBytes.f (l0 : List Int) (l1 : List Int) : Option (Bool) := some ((strOfNums l0).toList == (strOfNums l1).toList)
set_option maxHeartbeats 8000000 in
set_option maxRecDepth 100000 in
theorem kauditref24_SameBytes.calls (A0 : Option Addr) (c0 : Nat) (l0 : List Int) (A1 : Option Addr) (c1 : Nat) (l1 : List Int) (r : Bool) (w : World) (hr0 : Kd.C (Kd.int .u8) w A0 l0.length l0) (hc0 : l0.length ≤ c0) (hr1 : Kd.C (Kd.int .u8) w A1 l1.length l1) (hc1 : l1.length ≤ c1) (h : kauditref24_SameBytes.f l0 l1 = some r) :
    Calls Tryd.prog 50 #[.slice A0 l0.length c0, .slice A1 l1.length c1] w fun e w' => e = .returned (.bool r) ∧ Drawn0 w w' := by
  have HR0 := Aside0.mk hr0
  have HC0 := Aside0.mk hc0
  clear hr0 hc0
  have HR1 := Aside0.mk hr1
  have HC1 := Aside0.mk hc1
  clear hr1 hc1
  have H : (some ((strOfNums l0).toList == (strOfNums l1).toList)) = some r := h
  clear h
  obtain rfl := Option.some.inj H
  have hcv3 := Kd.C_string (P := Tryd.prog) (A := A0) (c := c0) Tryd.underlying22 Tryd.underlying5 Tryd.underlying9 HR0.out
  have hcv4 := Kd.C_string (P := Tryd.prog) (A := A1) (c := c1) Tryd.underlying22 Tryd.underlying5 Tryd.underlying9 HR1.out
  go_enter Tryd.func50, Tryd.ntmps50
  go_wp2
  go_ret
  exact ⟨by first | rfl | (simp; done) | (simp [*]; done) | (simp only [isEmpty_ne_]; done), by repeat (first | exact Drawn0.refl _ | apply Drawn0.step)⟩
mutual
def logfile_appendNumbers.l0 : Nat → List Int → List Int → Int → Int → Option (List Int)
  | 0, _, _, _, _ => none
  | k + 1, x0, x7, x8, x9 => if x9 < x8 then (if 0 ≤ x9 then (if x9 < (x7.length : Int) then (logfile_appendNumbers.l1 k x0 (rd x7 x9) x7 x8 x9) else (none)) else (none)) else (some x0)
def logfile_appendNumbers.l1 : Nat → List Int → Int → List Int → Int → Int → Option (List Int)
  | 0, _, _, _, _, _ => none
  | k + 1, x0, x6, x7, x8, x9 => if x6 > 127 then (if x0.length < 140737488355328 then (logfile_appendNumbers.l1 k (x0 ++ [(Go.bits .or .i64 (Go.bits .and .i64 x6 127) 128) % 256]) (x6 / 128) x7 x8 x9) else (none)) else (if x0.length < 140737488355328 then (logfile_appendNumbers.l0 k (x0 ++ [(x6) % 256]) x7 x8 (wrap64 (x9 + 1))) else (none))
end
def logfile_appendNumbers.f (k : Nat) (l0 : List Int) (l1 : List Int) : Option (List Int) := logfile_appendNumbers.l0 k l0 l1 (l1.length : Int) 0
theorem logfile_appendNumbers.mono_l : ∀ k, (∀ y0 y1 y2 y3, LeO (logfile_appendNumbers.l0 k y0 y1 y2 y3) (logfile_appendNumbers.l0 (k + 1) y0 y1 y2 y3)) ∧ (∀ y0 y1 y2 y3 y4, LeO (logfile_appendNumbers.l1 k y0 y1 y2 y3 y4) (logfile_appendNumbers.l1 (k + 1) y0 y1 y2 y3 y4))
  | 0 => ⟨fun _ _ _ _ r h => by simp [logfile_appendNumbers.l0] at h, fun _ _ _ _ _ r h => by simp [logfile_appendNumbers.l1] at h⟩
  | k + 1 => by
    obtain ⟨ih0, ih1⟩ := logfile_appendNumbers.mono_l k
    refine ⟨?_, ?_⟩
    · intro y0 y1 y2 y3
      unfold logfile_appendNumbers.l0
      repeat' first
      | (with_reducible exact ih0 _ _ _ _)
      | (with_reducible exact ih1 _ _ _ _ _)
      | (with_reducible exact LeO.refl _)
      | (with_reducible exact LeO.none _)
      | (with_reducible refine LeO.ite ?_ ?_)
      | (with_reducible refine LeO.bind ?_ (fun _ => ?_))
      | exact ih0 _ _ _ _
      | exact ih1 _ _ _ _ _
      | exact LeO.none _
      | refine LeO.ite ?_ ?_
      | refine LeO.bind ?_ (fun _ => ?_)
    · intro y0 y1 y2 y3 y4
      unfold logfile_appendNumbers.l1
      repeat' first
      | (with_reducible exact ih0 _ _ _ _)
      | (with_reducible exact ih1 _ _ _ _ _)
      | (with_reducible exact LeO.refl _)
      | (with_reducible exact LeO.none _)
      | (with_reducible refine LeO.ite ?_ ?_)
      | (with_reducible refine LeO.bind ?_ (fun _ => ?_))
      | exact ih0 _ _ _ _
      | exact ih1 _ _ _ _ _
      | exact LeO.none _
      | refine LeO.ite ?_ ?_
      | refine LeO.bind ?_ (fun _ => ?_)
theorem logfile_appendNumbers.mono : ∀ a0 a1 k, LeO (logfile_appendNumbers.f k a0 a1) (logfile_appendNumbers.f (k + 1) a0 a1) := by
  intro a0 a1 k
  obtain ⟨ih0, ih1⟩ := logfile_appendNumbers.mono_l k
  unfold logfile_appendNumbers.f
  repeat' first
      | (with_reducible exact ih0 _ _ _ _)
      | (with_reducible exact ih1 _ _ _ _ _)
      | (with_reducible exact LeO.refl _)
      | (with_reducible exact LeO.none _)
      | (with_reducible refine LeO.ite ?_ ?_)
      | (with_reducible refine LeO.bind ?_ (fun _ => ?_))
      | exact ih0 _ _ _ _
      | exact ih1 _ _ _ _ _
      | exact LeO.none _
      | refine LeO.ite ?_ ?_
      | refine LeO.bind ?_ (fun _ => ?_)
set_option maxHeartbeats 8000000 in
set_option maxRecDepth 100000 in
theorem logfile_appendNumbers.calls (k : Nat) (P0_ : Nat → Prop) (u9000_ : Value) (l0 : List Int) (A1 : Option Addr) (c1 : Nat) (l1 : List Int) (r : List Int) (w0 w : World) (hB : Below w0.heap.size w0 w) (ho0 : Kd.R (Kd.int .u8) 5 w w0.heap.size P0_ u9000_ l0) (hr1 : ∀ W_, Kept w W_ (fun k_ => P0_ k_) → Kd.C (Kd.int .i64) W_ A1 l1.length l1) (hc1 : l1.length ≤ c1) (h : logfile_appendNumbers.f k l0 l1 = some r) :
    Calls Tryd.prog 89 #[u9000_, .slice A1 l1.length c1] w fun e w' => ∃ v0_ : Value, e = .returned (v0_) ∧ Kd.R (Kd.int .u8) 5 w' w0.heap.size (fun k_ => (P0_ k_ ∨ w.heap.size ≤ k_)) v0_ r ∧ Below w0.heap.size w0 w' ∧ Kept w w' (fun k_ => P0_ k_) := by
  have HO0 := Aside0.mk (show Kd.R (Kd.int .u8) 5 w w0.heap.size (fun k_ => (P0_ k_ ∨ w.heap.size ≤ k_)) u9000_ l0 from Kd.R_mono ho0 (fun k_ hk => (.inl hk)))
  have HR1 := Aside0.mk hr1
  have HC1 := Aside0.mk hc1
  clear hr1 hc1
  have HK := Aside0.mk (Kept.refl w (fun k_ => P0_ k_))
  have HW0 := Aside0.mk hB.size
  have HB := Aside0.mk hB
  clear hB
  have H : (logfile_appendNumbers.l0 k l0 l1 (l1.length : Int) 0) = some r := h
  clear h
  have H' := Aside0.mk H
  clear H
  go_enter Tryd.func89, Tryd.ntmps89
  go_wp2
  go_loopg [0, 9] k (fun kq v0 v9 w' => ∃ (x0_1 : List Int) (x9_1 : Int), v9 = .int .i64 x9_1 ∧ Aside0 (logfile_appendNumbers.l0 kq x0_1 l1 (l1.length : Int) x9_1 = some r) ∧ Aside0 (kq ≤ k) ∧ Aside0 (Kd.R (Kd.int .u8) 5 w' w0.heap.size (fun k_ => (P0_ k_ ∨ w.heap.size ≤ k_)) v0 x0_1) ∧ Aside0 (Kept w w' (fun k_ => P0_ k_)) ∧ Aside0 (Below w0.heap.size w0 w'))
  case atStart => exact ⟨(l0), (0), (by first | rfl | (simp; done) | (simp [*]; done) | (simp only [isEmpty_ne_]; done)), H', ⟨Nat.le_refl _⟩, ⟨by (with_reducible repeat (first | apply Kd.R_alloc | apply Kd.R_drewN | apply Kd.R_drew)); exact HO0.out⟩, ⟨by repeat (first | (with_reducible first | exact HK.out | apply Kept.alloc | apply Kept.drewN | apply Kept.drew) | exact HK.out)⟩, ⟨by repeat (first | (with_reducible first | exact HB.out | apply below_alloc | apply pw_below_drewN | apply below_drew1) | exact HB.out)⟩⟩
  case round =>
    clear H'
    try clear c1
    try clear p2
    obtain ⟨x0_1, x9_1, rfl, HA, HK1, HO_0, HK, HB⟩ := hrel
    cases gk with
    | zero => exact absurd HA.out (by simp [logfile_appendNumbers.l0])
    | succ k1 =>
      have H := HA.out
      clear HA
      simp only [logfile_appendNumbers.l0] at H
      by_cases c3 : x9_1 < (l1.length : Int)
      · rw [if_pos c3] at H
        have c3b0 : decide (x9_1 < (l1.length : Int)) = true := decide_eq_true c3
        clear c3
        by_cases c4 : 0 ≤ x9_1
        · rw [if_pos c4] at H
          have c4b0 : decide (0 ≤ x9_1) = true := decide_eq_true c4
          clear c4
          by_cases c5 : x9_1 < (l1.length : Int)
          · rw [if_pos c5] at H
            have c5b0 : decide (x9_1 < (l1.length : Int)) = true := decide_eq_true c5
            clear c5
            have H' := Aside0.mk H
            clear H
            have p502 : 0 ≤ (x9_1 : Int) := of_decide_eq_true (by first | (with_reducible assumption) | assumption)
            have q502 : x9_1 < (l1.length : Int) := of_decide_eq_true (by first | (with_reducible assumption) | assumption)
            obtain ⟨ad502, e502, hx502_0⟩ := Kd.at_int (Kd.C_kept_now HR1.out HK.out) x9_1 p502 q502
            cases e502
            replace p502 := eq_true p502
            replace q502 := eq_true q502
            go_wp2
            go_loopg [0, 6] k1 (fun kq v0 v6 w' => ∃ (x0_2 : List Int) (x6_2 : Int), v6 = .int .i64 x6_2 ∧ Aside0 (logfile_appendNumbers.l1 kq x0_2 x6_2 l1 (l1.length : Int) x9_1 = some r) ∧ Aside0 (kq ≤ k1) ∧ Aside0 (Kd.R (Kd.int .u8) 5 w' w0.heap.size (fun k_ => (P0_ k_ ∨ w.heap.size ≤ k_)) v0 x0_2) ∧ Aside0 (Kept w w' (fun k_ => P0_ k_)) ∧ Aside0 (Below w0.heap.size w0 w'))
            case atStart => exact ⟨(x0_1), (rd l1 x9_1), (by first | rfl | (simp; done) | (simp [*]; done) | (simp only [isEmpty_ne_]; done)), H', ⟨Nat.le_refl _⟩, ⟨by (with_reducible repeat (first | apply Kd.R_alloc | apply Kd.R_drewN | apply Kd.R_drew)); exact HO_0.out⟩, ⟨by repeat (first | (with_reducible first | exact HK.out | apply Kept.alloc | apply Kept.drewN | apply Kept.drew) | exact HK.out)⟩, ⟨by repeat (first | (with_reducible first | exact HB.out | apply below_alloc | apply pw_below_drewN | apply below_drew1) | exact HB.out)⟩⟩
            case round =>
              clear H'
              try clear c1
              try clear p2
              try clear c3
              try clear c3b0
              try clear c4
              try clear c4b0
              try clear c5
              try clear c5b0
              try clear p5
              try clear q5
              try clear hx5
              try clear hx502_0
              try clear p2
              try clear p502
              try clear q502
              obtain ⟨x0_2, x6_2, rfl, HA, HK2, HO_0, HK, HB⟩ := hrel
              cases gk with
              | zero => exact absurd HA.out (by simp [logfile_appendNumbers.l1])
              | succ k2 =>
                have H := HA.out
                clear HA
                simp only [logfile_appendNumbers.l1] at H
                by_cases c6 : x6_2 > 127
                · rw [if_pos c6] at H
                  have c6b0 : decide (127 < x6_2) = true := decide_eq_true c6
                  clear c6
                  by_cases c7 : x0_2.length < 140737488355328
                  · rw [if_pos c7] at H
                    have LMc7 := Aside0.mk c7
                    clear c7
                    obtain ⟨y503, hy503⟩ : ∃ y_ : List Int, y_ = (x0_2 ++ [(Go.bits .or .i64 (Go.bits .and .i64 x6_2 127) 128) % 256]) := ⟨_, rfl⟩
                    replace H : (logfile_appendNumbers.l1 k2 y503 (x6_2 / 128) l1 (l1.length : Int) x9_1) = some r := by first | (rw [hy503]; with_reducible exact H) | (have H2_ := (Option.bind_some _ _).symm.trans H; rw [hy503]; with_reducible exact H2_) | (have H2_ := (Option.bind_some _ _).symm.trans H; with_reducible exact H2_) | with_reducible exact H | (rw [hy503]; exact H) | exact H
                    have Ny503 := Aside0.mk hy503
                    clear hy503
                    have H' := Aside0.mk H
                    clear H
                    go_wp2_with (first | ((with_reducible refine gate_builtin (b := .append) (xs := #[.tmp 17, .tmp 22]) rfl ?_); at_builtin; refine Kd.R_append (Kd.int .u8) (w0 := w0) w0.heap.size rfl (.tmp 17) (.tmp 22) 22 5 (.int .u8 0) 1 rfl Tryd.underlying22 info5 rfl (by decide) (by omega) u0 x0_2 ((Go.bits .or .i64 (Go.bits .and .i64 x6_2 127) 128) % 256) [.int .u8 ((Go.bits .or .i64 (Go.bits .and .i64 x6_2 127) 128) % 256)] (fun k_ => (P0_ k_ ∨ w.heap.size ≤ k_)) (fun _ => False) rfl rfl ?aP (fun _ hk => hk.elim) ?aF ?aO ?aB ?aS ?aL ?_; (case aP => exact rfl); (case aB => exact (by repeat (first | (with_reducible first | exact HB.out | apply below_alloc | apply pw_below_drewN | apply below_drew1) | exact HB.out))); (case aF => exact (fun k_ hk => (.inr (Nat.le_trans (by first | exact HK.out.1 | exact (show Kept w _ (fun k_ => P0_ k_) from by repeat (first | (with_reducible first | exact HK.out | apply Kept.alloc | apply Kept.drewN | apply Kept.drew) | exact HK.out)).1) hk)))); (case aO => exact (by (with_reducible repeat (first | apply Kd.R_alloc | apply Kd.R_drewN | apply Kd.R_drew)); exact HO_0.out)); (case aS => exact (below_size (by repeat (first | (with_reducible first | exact HB.out | apply below_alloc | apply pw_below_drewN | apply below_drew1) | exact HB.out)))); (case aL => have := LMc7.out; omega); intro v504 w8 ho hb hg hat; rw [← Ny503.out] at ho; have n0_ := Aside0.mk (hb); have n1_ := Aside0.mk (Kept.of_grown (S := (fun k_ => P0_ k_)) hg (by repeat (first | (with_reducible first | exact HK.out | apply Kept.alloc | apply Kept.drewN | apply Kept.drew) | exact HK.out)) (fun k_ e_ => (HO_0.out.1 k_ e_))); have n2_ := Aside0.mk (ho); clear HB; clear HK; clear HO_0; have HB := n0_; have HK := n1_; have HO505 := n2_; clear n0_ n1_ n2_; clear ho hb hg hat))
                    go_roundg k2
                    case measure => have := HK1.out; have := HK2.out; omega
                    case rel => exact ⟨(y503), (x6_2 / 128), (by first | rfl | (simp; done) | (simp [*]; done) | (simp only [isEmpty_ne_]; done)), H', ⟨by have := HK1.out; have := HK2.out; omega⟩, ⟨by (with_reducible repeat (first | apply Kd.R_alloc | apply Kd.R_drewN | apply Kd.R_drew)); exact HO505.out⟩, ⟨by repeat (first | (with_reducible first | exact HK.out | apply Kept.alloc | apply Kept.drewN | apply Kept.drew) | exact HK.out)⟩, ⟨by repeat (first | (with_reducible first | exact HB.out | apply below_alloc | apply pw_below_drewN | apply below_drew1) | exact HB.out)⟩⟩
                  · rw [if_neg c7] at H
                    exact absurd H (by simp)
                · rw [if_neg c6] at H
                  have c6b0 : decide (127 < x6_2) = false := decide_eq_false c6
                  clear c6
                  by_cases c9 : x0_2.length < 140737488355328
                  · rw [if_pos c9] at H
                    have LMc9 := Aside0.mk c9
                    clear c9
                    obtain ⟨y506, hy506⟩ : ∃ y_ : List Int, y_ = (x0_2 ++ [(x6_2) % 256]) := ⟨_, rfl⟩
                    replace H : (logfile_appendNumbers.l0 k2 y506 l1 (l1.length : Int) (wrap64 (x9_1 + 1))) = some r := by first | (rw [hy506]; with_reducible exact H) | (have H2_ := (Option.bind_some _ _).symm.trans H; rw [hy506]; with_reducible exact H2_) | (have H2_ := (Option.bind_some _ _).symm.trans H; with_reducible exact H2_) | with_reducible exact H | (rw [hy506]; exact H) | exact H
                    have Ny506 := Aside0.mk hy506
                    clear hy506
                    have H' := Aside0.mk H
                    clear H
                    go_wp2_with (first | ((with_reducible refine gate_builtin (b := .append) (xs := #[.tmp 24, .tmp 27]) rfl ?_); at_builtin; refine Kd.R_append (Kd.int .u8) (w0 := w0) w0.heap.size rfl (.tmp 24) (.tmp 27) 22 5 (.int .u8 0) 1 rfl Tryd.underlying22 info5 rfl (by decide) (by omega) u0 x0_2 ((x6_2) % 256) [.int .u8 ((x6_2) % 256)] (fun k_ => (P0_ k_ ∨ w.heap.size ≤ k_)) (fun _ => False) rfl rfl ?aP (fun _ hk => hk.elim) ?aF ?aO ?aB ?aS ?aL ?_; (case aP => exact rfl); (case aB => exact (by repeat (first | (with_reducible first | exact HB.out | apply below_alloc | apply pw_below_drewN | apply below_drew1) | exact HB.out))); (case aF => exact (fun k_ hk => (.inr (Nat.le_trans (by first | exact HK.out.1 | exact (show Kept w _ (fun k_ => P0_ k_) from by repeat (first | (with_reducible first | exact HK.out | apply Kept.alloc | apply Kept.drewN | apply Kept.drew) | exact HK.out)).1) hk)))); (case aO => exact (by (with_reducible repeat (first | apply Kd.R_alloc | apply Kd.R_drewN | apply Kd.R_drew)); exact HO_0.out)); (case aS => exact (below_size (by repeat (first | (with_reducible first | exact HB.out | apply below_alloc | apply pw_below_drewN | apply below_drew1) | exact HB.out)))); (case aL => have := LMc9.out; omega); intro v507 w10 ho hb hg hat; rw [← Ny506.out] at ho; have n0_ := Aside0.mk (hb); have n1_ := Aside0.mk (Kept.of_grown (S := (fun k_ => P0_ k_)) hg (by repeat (first | (with_reducible first | exact HK.out | apply Kept.alloc | apply Kept.drewN | apply Kept.drew) | exact HK.out)) (fun k_ e_ => (HO_0.out.1 k_ e_))); have n2_ := Aside0.mk (ho); clear HB; clear HK; clear HO_0; have HB := n0_; have HK := n1_; have HO508 := n2_; clear n0_ n1_ n2_; clear ho hb hg hat))
                    go_roundg k2
                    case measure => have := HK1.out; have := HK2.out; omega
                    case rel => exact ⟨(y506), (wrap64 (x9_1 + 1)), (by first | rfl | (simp; done) | (simp [*]; done) | (simp only [isEmpty_ne_]; done)), H', ⟨by have := HK1.out; have := HK2.out; omega⟩, ⟨by (with_reducible repeat (first | apply Kd.R_alloc | apply Kd.R_drewN | apply Kd.R_drew)); exact HO508.out⟩, ⟨by repeat (first | (with_reducible first | exact HK.out | apply Kept.alloc | apply Kept.drewN | apply Kept.drew) | exact HK.out)⟩, ⟨by repeat (first | (with_reducible first | exact HB.out | apply below_alloc | apply pw_below_drewN | apply below_drew1) | exact HB.out)⟩⟩
                  · rw [if_neg c9] at H
                    exact absurd H (by simp)
          · rw [if_neg c5] at H
            exact absurd H (by simp)
        · rw [if_neg c4] at H
          exact absurd H (by simp)
      · rw [if_neg c3] at H
        have c3b0 : decide (x9_1 < (l1.length : Int)) = false := decide_eq_false c3
        clear c3
        obtain rfl := Option.some.inj H
        go_wp2
        go_ret
        exact ⟨_, by first | rfl | (simp [errW_none, errW_some] <;> rfl) | (simp [*, errW_none, errW_some] <;> rfl) | (simp only [isEmpty_ne_, isEmpty_eq_]; rfl) | (simp [*, isEmpty_ne_, isEmpty_eq_]; done), by (with_reducible repeat (first | apply Kd.R_alloc | apply Kd.R_drewN | apply Kd.R_drew)); exact HO_0.out, by repeat (first | (with_reducible first | exact HB.out | apply below_alloc | apply pw_below_drewN | apply below_drew1) | exact HB.out), by repeat (first | (with_reducible first | exact HK.out | apply Kept.alloc | apply Kept.drewN | apply Kept.drew) | exact HK.out)⟩
end Go.Proofs.YtjnlmmjadlidlaaDoor.PRec
end
section
namespace Go.Proofs.YtjnlmmjadlidlaaDoor.PRec
open Go.RowKit Go.Proofs.YtjnlmmjadlidlaaDoorW.PrintWords Go.Proofs.YtjnlmmjadlidlaaDoorW.PrintLast Go.Proofs.YtjnlmmjadlidlaaDoorW.PrintMore
def magicL : List Int := [107, 97, 117, 100, 105, 116]
def magicC : Array Value := #[.int .u8 107, .int .u8 97, .int .u8 117, .int .u8 100, .int .u8 105, .int .u8 116]
def Mk (w : World) (base : Nat) (ok : Nat → Prop) (v : Value) : Prop := ∃ g, v = .slice (some ⟨g, 0, none⟩) 6 6 ∧ ok g ∧ base ≤ g ∧ w.heap[g]? = some (.cells magicC 5 (6, 7))
def RM (w : World) (base : Nat) (ok : Nat → Prop) (v : Value) (xs : List Int) : Prop := Kd.R (Kd.int .u8) 5 w base ok v xs ∨ (Mk w base ok v ∧ xs = magicL)
section
variable {w w1 : World} {base : Nat} {ok ok' : Nat → Prop} {v : Value} {xs : List Int}
theorem RM_own (h : RM w base ok v xs) : ∀ k, v.ownBlock = some k → ok k := by
  rcases h with h | ⟨⟨g, rfl, hg, _⟩, _⟩
  · exact h.1
  · intro k hk
    have : g = k := by simpa [Value.ownBlock] using hk
    rw [← this]; exact hg
theorem RM_mono (h : RM w base ok v xs) (hok : ∀ k, ok k → ok' k) : RM w base ok' v xs := by
  rcases h with h | ⟨⟨g, hv, hg, hr⟩, hx⟩
  · exact .inl (Kd.R_mono h hok)
  · exact .inr ⟨⟨g, hv, hok g hg, hr⟩, hx⟩
theorem RM_below (h : RM w base ok v xs) (hb : Below w.heap.size w w1) : RM w1 base ok v xs := by
  rcases h with h | ⟨⟨g, hv, hg, hr, hh⟩, hx⟩
  · exact .inl (Kd.R_below h hb)
  · exact .inr ⟨⟨g, hv, hg, hr, (hb.block g (Array.getElem?_eq_some_iff.1 hh).1).trans hh⟩, hx⟩
theorem RM_alloc (h : RM w base ok v xs) (o : Obj) : RM (w.alloc o) base ok v xs := RM_below h (below_alloc (Below.refl _ _) o)
theorem RM_drew (h : RM w base ok v xs) : RM w.drew base ok v xs := RM_below h (below_drew (Below.refl _ _))
theorem RM_drewN (h : RM w base ok v xs) (m : Nat) : RM (w.drewN m) base ok v xs := RM_below h (pw_below_drewN (Below.refl _ _) m)
theorem RM_R (h : RM w base ok v xs) (hx : xs ≠ magicL) : Kd.R (Kd.int .u8) 5 w base ok v xs := h.elim id (fun h => absurd h.2 hx)
end
theorem RM_append {P : Program} {ops : Array Oper} {rest : List Oper} {o : Oper} {a : Act} {Q : Exit → Act → World → Prop} {w0 W : World} (base : Nat) (hgd : o.guard = none) (s x : Operand) (t _e : TypeId) (_z : Value) (_bytes : Nat)
    (ho : o.op = .call { callee := .builtin .append, args := #[s, x], argTypes := #[t, t] })
    (ht : P.underlying t = some (.slice 5)) (hinfo : (P.info? 5).map (fun i => (i.zero, i.size, i.bytes)) = some (some (.int .u8 0), 1, 1)) (_hz : (Value.int .u8 0).cells.size = 1) (_hs0 : 0 < 1) (_hb0 : 0 < 1)
    (v : Value) (xs : List Int) (p : Int) (cs : List Value) (ok okp : Nat → Prop) (hs : a.eval s = v) (hx : a.eval x = .slice (some ⟨W.heap.size, 0, none⟩) 1 1) (hp : (Kd.int .u8).M W base okp p cs) (hokp : ∀ k, okp k → ok k ∧ some k ≠ v.ownBlock) (hfresh : ∀ k, W.heap.size ≤ k → ok k)
    (HO : RM W base ok v xs) (HB : Below base w0 W) (hbase : base ≤ W.heap.size) (hl : (xs.length + 1) * 1 ≤ 140737488355328)
    (h : ∀ v1 w1, RM w1 base ok v1 (xs ++ [p]) → Below base w0 w1 → W.grownBy w1 v.ownBlock → (v1.ownBlock = v.ownBlock ∨ ∃ b, v1.ownBlock = some b ∧ W.heap.size ≤ b) → wpList P ops Q rest (a.put o.dst v1) w1) :
    wpList P ops Q (o :: rest) a (W.alloc (.cells cs.toArray 5)) := by
  rcases HO with HO | ⟨⟨g, rfl, hg, hbg, hh⟩, rfl⟩
  · exact Kd.R_append (Kd.int .u8) base hgd s x t 5 (.int .u8 0) 1 ho ht hinfo rfl (by decide) (by decide) v xs p cs ok okp hs hx hp hokp hfresh HO HB hbase hl (fun v1 w1 h1 => h v1 w1 (.inl h1))
  · obtain rfl : cs = [.int .u8 p] := hp
    obtain ⟨i, hi, hzz⟩ := Option.map_eq_some_iff.1 hinfo
    simp only [Prod.mk.injEq] at hzz
    obtain ⟨hz0, hz1, hz2⟩ := hzz
    have hlt : g < W.heap.size := (Array.getElem?_eq_some_iff.1 hh).1
    have hh' : (W.alloc (.cells #[.int .u8 p] 5)).heap[g]? = some (.cells magicC 5 (6, 7)) := (heap_alloc_old W _ hlt).trans hh
    have hn' : (W.alloc (.cells #[.int .u8 p] 5)).heap[W.heap.size]? = some (.cells #[.int .u8 p] 5 (0, 0)) := heap_alloc_new W _
    have hsz' : (W.alloc (.cells #[.int .u8 p] 5)).heap.size = W.heap.size + 1 := World.size_alloc _ _
    generalize hW : W.alloc (.cells #[.int .u8 p] 5) = W1 at hh' hn' hsz'
    have hr := run_append_grow (P := P) W1 t o.type 5 i (.int .u8 0) ht hi hz0 ⟨g, 0, none⟩ 6 6 magicC.toList (by rw [hz1]; rfl)
      (fun j u hu => by rw [show (⟨g, 0, none⟩ : Addr).add j = ⟨g, j, none⟩ from by cases j <;> simp [Addr.add]]; rw [cell_of_row W1 g j magicC 5 (6, 7) hh']; rw [← Array.getElem?_toList]; exact hu)
      ⟨W.heap.size, 0, none⟩ 1 1 [.int .u8 p] (by rw [hz1]; rfl)
      (fun j u hu => by rw [show (⟨W.heap.size, 0, none⟩ : Addr).add j = ⟨W.heap.size, j, none⟩ from by cases j <;> simp [Addr.add]]; rw [cell_of_row W1 W.heap.size j #[.int .u8 p] 5 (0, 0) hn']; rw [← Array.getElem?_toList]; exact hu)
      (by omega) (by omega) (by rw [hz2]; decide +kernel)
    obtain ⟨cap, hcap⟩ : ∃ cap, cap = grownCap W1 (6 + 1) 6 5 := ⟨_, rfl⟩
    have hc1 : 7 ≤ cap := by rw [hcap]; exact grownCap_ge W1 7 6 5
    have hc2 : cap ≤ maxLen := by rw [hcap]; exact grownCap_le_maxLen W1 7 6 5 (by decide)
    rw [← hcap] at hr
    obtain ⟨C, hC⟩ : ∃ C : Array Value, C = magicC.toList.toArray ++ [Value.int .u8 p].toArray ++ Builtin.zeroCells (Value.int .u8 0).cells (cap - (6 + 1)) := ⟨_, rfl⟩
    rw [← hC] at hr
    have hCs : C.size = cap := by
      rw [hC, Array.size_append, Array.size_append, size_zeroCells]
      show 6 + 1 + (cap - 7) * 1 = cap
      omega
    have hCt : C.toList.take 7 = [.int .u8 107, .int .u8 97, .int .u8 117, .int .u8 100, .int .u8 105, .int .u8 116, .int .u8 p] := by
      rw [hC]
      simp [magicC]
    have hgr : W.grownBy (W1.drew.alloc (.cells C 5)) (Value.slice (some ⟨g, 0, none⟩) 6 6).ownBlock := by
      rw [← hW]
      exact World.grownBy.trans (World.grownBy_alloc W _ _) ⟨rfl, rfl, rfl, by simp, fun k hk _ => heap_alloc_old (W.alloc (.cells #[.int .u8 p] 5)).drew _ hk⟩
    have hnew : (W1.drew.alloc (.cells C 5)).heap[W1.heap.size]? = some (.cells C 5 (0, 0)) := heap_alloc_new W1.drew _
    refine wpList_plain hgd fun K hK => ?_
    unfold Oper.wp execOp
    simp only [ho, resolve, invoke, builtin, Sem.run_bind, Sem.run_pure, Result.andThen_ok, List.map_toArray, List.map_cons, List.map_nil, hs, hx, hr]
    refine hK _ _ (h _ _ (.inl ⟨fun k hk => hfresh k ?_, [.int .u8 107, .int .u8 97, .int .u8 117, .int .u8 100, .int .u8 105, .int .u8 116, .int .u8 p], ⟨rfl, .inr ⟨W1.heap.size, cap, C, rfl, by omega, hnew, by show 7 ≤ cap; exact hc1, hc2, by rw [hCs]; show cap = cap * 1; omega, hCt⟩⟩, ?_⟩) (HB.grown hgr hbase (fun k hk => ?_)) hgr (.inr ⟨W1.heap.size, rfl, by omega⟩))
    · have : W1.heap.size = k := by simpa [Value.ownBlock] using hk
      omega
    · exact Reps.one rfl (Reps.one rfl (Reps.one rfl (Reps.one rfl (Reps.one rfl (Reps.one rfl (Reps.one rfl (Reps.none _ _)))))))
    · have : g = k := by simpa [Value.ownBlock] using hk
      omega
theorem shape_of {w : World} {g : Nat} {C : Array Value} {e : TypeId} {fr : Nat × Nat} (h : w.heap[g]? = some (.cells C e fr)) : w.shape? g = some (e, C.size) := by
  unfold World.shape?
  rw [h]
theorem freeze_at {w : World} {g k : Nat} {C : Array Value} {e : TypeId} (h : w.heap[g]? = some (.cells C e (0, 0))) : (w.freeze ⟨g, k, none⟩ 1).heap[g]? = some (.cells C e (k, k + 1)) ∧ w.grownBy (w.freeze ⟨g, k, none⟩ 1) (some g) := by
  have hlt := (Array.getElem?_eq_some_iff.1 h).1
  have hx := (Array.getElem?_eq_some_iff.1 h).2
  unfold World.freeze
  rw [if_neg (by decide)]
  refine ⟨?_, rfl, rfl, rfl, by simp, fun i hi hn => ?_⟩
  · simp [hlt, Array.getElem_modify, hx]
  · have : g ≠ i := fun e => hn (by rw [e])
    simp [Array.getElem?_modify, this]
theorem run_cv {P : Program} {w : World} {g : Nat} {C : Array Value} (ht : P.underlying 22 = some (.slice 5)) (he : P.underlying 5 = some (.int .u8)) (h : w.heap[g]? = some (.cells C 5 (0, 0))) (n c : Nat) :
    (convert 22 22 (.slice (some ⟨g, 0, none⟩) n c)).run P w = .ok (.slice (some ⟨g, 0, none⟩) n c) (w.freeze ⟨g, C.size, none⟩ 1) := by
  have hsh := shape_of h
  simp [convert, run_underlying ht, run_underlying he, markStringish, hsh]
section
variable {P : Program} {ops : Array Oper} {rest : List Oper} {o : Oper} {a : Act} {Q : Exit → Act → World → Prop} {Kc : Act → World → Prop} {w0 W : World}
theorem lit6 (base : Nat) (hgd : o.guard = none) (N : Nat) (hd : o.dst = some N) (hrun : (execOp a.eval o).run P W = .ok (.value (.slice (some ⟨W.heap.size, 0, none⟩) 6 6)) (W.alloc (.cells magicC 5))) (HB : Below base w0 W) (hbase : base ≤ W.heap.size)
    (h : ∀ g w1, g = W.heap.size → w1.heap[g]? = some (.cells magicC 5 (0, 0)) → Below base w0 w1 → Below W.heap.size W w1 → wpList P ops Q rest (a.put (some N) (.slice (some ⟨g, 0, none⟩) 6 6)) w1) : wpList P ops Q (o :: rest) a W := by
  rw [← hd] at h
  exact Kd.event_run hgd hrun (h _ _ rfl (heap_alloc_new W _) (HB.alloc hbase _) (below_alloc (Below.refl _ _) _))
theorem lit6_step (base : Nat) (hw : Region.wanted o (yielded ops a.tmps) = true) (N : Nat) (_hd : o.dst = some N) (hrun : (execOp a.eval o).run P W = .ok (.value (.slice (some ⟨W.heap.size, 0, none⟩) 6 6)) (W.alloc (.cells magicC 5))) (HB : Below base w0 W) (hbase : base ≤ W.heap.size)
    (h : ∀ g w1, g = W.heap.size → w1.heap[g]? = some (.cells magicC 5 (0, 0)) → Below base w0 w1 → Below W.heap.size W w1 → Kc (a.put o.dst (.slice (some ⟨g, 0, none⟩) 6 6)) w1) : if Region.wanted o (yielded ops a.tmps) = true then Oper.wp P o a W Kc Q else Kc (a.put o.dst undef) W :=
  event_step hw hrun (h _ _ rfl (heap_alloc_new W _) (HB.alloc hbase _) (below_alloc (Below.refl _ _) _))
theorem cv_run {g : Nat} {x : Operand} (ho : o.op = .convert 22 22 x) (hx : a.eval x = .slice (some ⟨g, 0, none⟩) 6 6) (ht : P.underlying 22 = some (.slice 5)) (he : P.underlying 5 = some (.int .u8)) (hb : W.heap[g]? = some (.cells magicC 5 (0, 0))) :
    (execOp a.eval o).run P W = .ok (.value (.slice (some ⟨g, 0, none⟩) 6 6)) (W.freeze ⟨g, 6, none⟩ 1) := by
  have h := run_cv (P := P) ht he hb 6 6
  simp [execOp, ho, hx, h]
  rfl
theorem cv6 {g : Nat} {x : Operand} (hgd : o.guard = none) (ho : o.op = .convert 22 22 x) (hx : a.eval x = .slice (some ⟨g, 0, none⟩) 6 6) (ht : P.underlying 22 = some (.slice 5)) (he : P.underlying 5 = some (.int .u8)) (hb : W.heap[g]? = some (.cells magicC 5 (0, 0)))
    (h : ∀ w1, w1.heap[g]? = some (.cells magicC 5 (6, 7)) → W.grownBy w1 (some g) → wpList P ops Q rest (a.put o.dst (.slice (some ⟨g, 0, none⟩) 6 6)) w1) : wpList P ops Q (o :: rest) a W :=
  Kd.event_run hgd (cv_run ho hx ht he hb) (h _ (freeze_at hb).1 (freeze_at hb).2)
theorem cv6_step {g : Nat} {x : Operand} (hw : Region.wanted o (yielded ops a.tmps) = true) (ho : o.op = .convert 22 22 x) (hx : a.eval x = .slice (some ⟨g, 0, none⟩) 6 6) (ht : P.underlying 22 = some (.slice 5)) (he : P.underlying 5 = some (.int .u8)) (hb : W.heap[g]? = some (.cells magicC 5 (0, 0)))
    (h : ∀ w1, w1.heap[g]? = some (.cells magicC 5 (6, 7)) → W.grownBy w1 (some g) → Kc (a.put o.dst (.slice (some ⟨g, 0, none⟩) 6 6)) w1) : if Region.wanted o (yielded ops a.tmps) = true then Oper.wp P o a W Kc Q else Kc (a.put o.dst undef) W :=
  event_step hw (cv_run ho hx ht he hb) (h _ (freeze_at hb).1 (freeze_at hb).2)
end
end Go.Proofs.YtjnlmmjadlidlaaDoor.PRec
end
