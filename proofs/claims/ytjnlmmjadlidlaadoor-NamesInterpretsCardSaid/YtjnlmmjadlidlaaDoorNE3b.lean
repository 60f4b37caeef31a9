/-
  names.Name: it returns the name of the last naming of the list that has this kind and identity and a time that is not later.
-/
import Derived.Test.YtjnlmmjadlidlaaDoorNE3a
import Derived.Outline
import Derived.Lib.Hide
namespace Go.Proofs.YtjnlmmjadlidlaaDoor.PNames
open Go.RowKit Go.Shelf Go.Proofs.YtjnlmmjadlidlaaDoorW.PrintWords

attribute [local go_sem] Oper.semAt_some

set_option maxHeartbeats 1000000 in
theorem backward_in (F : Fence) (n : Nat) (h5 : F.fn 109) (hro : F.round = none) (a : Option Addr) (len cap : Nat) (w : World) :
    CallsIn F n Tryd.prog 109 #[.slice a len cap] w fun e w' => e = .returned (.func (.func 141) #[] #[.pointer (some ⟨w.heap.size, 0, none⟩)]) ∧ w' = w.alloc (.cells #[.slice a len cap] 23) := by
  refine callsIn_of_wp Tryd.func109 rfl h5 ?_ hro
  simp only [Tryd.ntmps109, List.size_toArray, List.length_cons, List.length_nil, Nat.reduceAdd, Nat.reduceSub, Array.replicate_succ, Array.replicate_zero, List.push_toArray, List.append_toArray, List.nil_append, List.cons_append]
  gi_wp2
  go_ret
  exact ⟨rfl, rfl⟩

theorem backward_stops (F : Fence) (n : Nat) (h7 : F.fn 141) (hro : F.round = none) (hn : 1 ≤ n) (Bs n₀ : Nat) (A : Option Addr) (c : Nat) (l : List S47) (w : World) (hBs : Bs < w.heap.size) (hn₀ : n₀ ≤ w.heap.size)
    (hc : Boxed w Bs 23 (.slice A l.length c)) (hC : ∀ W', Below n₀ w W' → Kd.C k47 W' A l.length l) :
    SeqStopsK F n Tryd.prog 141 #[.pointer (some ⟨Bs, 0, none⟩)] (fun x : Int × S47 => #[Value.int .i64 x.1, enc47 x.2]) (KpB n₀ Bs) (fun ys => ys = upto (bk l) l.length)
      (fun pre => ∃ k, k ≤ l.length ∧ pre = upto (bk l) k) l.length w := fun lb J Jx W hW _ _ hY h0 =>
  backward1_in F n h7 hro hn lb Bs n₀ A c l J Jx hY W ((hW.block Bs hBs).trans hc) (fun W' h' => hC W' ((hW.mono hn₀).trans h')) h0

theorem kpB_b {n₀ Bs : Nat} {w : World} (hn : n₀ ≤ w.heap.size) (hB : Bs < w.heap.size) (W : World) (l : Nat) (o o' : Obj) (hl : w.heap.size ≤ l) (h : W.heap[l]? = some o) (hc : o.isCells = false) (hw : o.isWalk = false) : KpB n₀ Bs W (W.putObj l o') :=
  ⟨belowK_b hn W l o o' hl h hc hw, World.putObj_heap_other (by omega)⟩

def hit (kind id time : Int) (x : S47) : Bool := x.f1 == kind && (x.f2 == id && decide (x.f0 ≤ time))

/-- A struct's block: its cells. -/
def Blk (W : World) (B : Nat) (cs : Array Value) (t : TypeId) : Prop := W.heap[B]? = some (.cells cs t (0, 0))
theorem Blk.cell {W : World} {B : Nat} {cs : Array Value} {t : TypeId} (h : Blk W B cs t) (i : Nat) : W.cell? ⟨B, i, none⟩ = cs[i]? := by simp [World.cell?, show W.heap[B]? = _ from h]
theorem blk_own {β : Type} (B : Nat) (t : TypeId) (f : β → Array Value) : Own (fun s W => Blk W B (f s) t) := fun s X Y row hs hg hrow =>
  (hg.block B (Array.getElem?_eq_some_iff.1 (show X.heap[B]? = _ from hs)).1 (fun e' => by obtain ⟨o, ho, hc⟩ := hrow B e'.symm; rw [show X.heap[B]? = _ from hs] at ho; cases ho; cases hc)).trans hs
theorem Blk.new (W : World) (t : TypeId) (cs : Array Value) : Blk (W.alloc (.cells cs t)) W.heap.size cs t := World.alloc_heap_new W _

/-- What holds between two rounds: the boxes of the arguments and of the results, and that nothing has been found. -/
def RI (b : Nat) (kind id time : Int) (pre : List (Int × S47)) (W : World) : Prop :=
  ((((Boxed W b 3 (.int .i64 kind) ∧ Boxed W (b + 1) 3 (.int .i64 id)) ∧ Boxed W (b + 1 + 1) 3 (.int .i64 time)) ∧ Boxed W (b + 1 + 1 + 1) 9 (.string ⟨#[]⟩)) ∧ Boxed W (b + 1 + 1 + 1 + 1) 4 (.bool false)) ∧ (∀ x ∈ pre, hit kind id time x.2 = false) ∧ b + 6 ≤ W.heap.size

/-- What holds where the loop has been left: the last element that came is the one. -/
def RX (b : Nat) (kind id time : Int) (pre : List (Int × S47)) (W : World) : Prop :=
  ∃ ini last, (pre = ini ++ [last] ∧ (∀ x ∈ ini, hit kind id time x.2 = false) ∧ hit kind id time last.2 = true) ∧ Boxed W (b + 1 + 1 + 1) 9 (.string last.2.f3) ∧ Boxed W (b + 1 + 1 + 1 + 1) 4 (.bool (!last.2.f3.toList.isEmpty))

theorem rI_own (b : Nat) (kind id time : Int) : Own (RI b kind id time) := fun _ X Y row hs hg hr =>
  ⟨⟨⟨⟨⟨boxed_own _ _ (fun (_ : Unit) => Value.int .i64 kind) () X Y row hs.1.1.1.1.1 hg hr, boxed_own _ _ (fun (_ : Unit) => Value.int .i64 id) () X Y row hs.1.1.1.1.2 hg hr⟩, boxed_own _ _ (fun (_ : Unit) => Value.int .i64 time) () X Y row hs.1.1.1.2 hg hr⟩,
    boxed_own _ _ (fun (_ : Unit) => Value.string ⟨#[]⟩) () X Y row hs.1.1.2 hg hr⟩, boxed_own _ _ (fun (_ : Unit) => Value.bool false) () X Y row hs.1.2 hg hr⟩, hs.2.1, Nat.le_trans hs.2.2 hg.size⟩
theorem rX_own (b : Nat) (kind id time : Int) : Own (RX b kind id time) := fun s X Y row hs hg hr => by
  obtain ⟨ini, last, hp, h1, h2⟩ := hs
  exact ⟨ini, last, hp, boxed_own _ _ (fun (_ : Unit) => Value.string last.2.f3) () X Y row h1 hg hr, boxed_own _ _ (fun (_ : Unit) => Value.bool (!last.2.f3.toList.isEmpty)) () X Y row h2 hg hr⟩

theorem hit_end {b B : Nat} {kind id time : Int} {w W : World} {pre : List (Int × S47)} {x : Int × S47} (hB : Below b w W) (hI2 : ∀ y ∈ pre, hit kind id time y.2 = false) (hx : hit kind id time x.2 = true)
    (c3 : Boxed W (b + 1 + 1 + 1) 9 (.string ⟨#[]⟩)) (c4 : Boxed W (b + 1 + 1 + 1 + 1) 4 (.bool false)) :
    KeepsFrom B W ((W.setCell ⟨b + 1 + 1 + 1, 0, none⟩ (.string x.2.f3)).setCell ⟨b + 1 + 1 + 1 + 1, 0, none⟩ (.bool (!x.2.f3.toList.isEmpty))).drew ∧
      (Code.ret = Code.ret ∧ RX b kind id time (pre ++ [x]) ((W.setCell ⟨b + 1 + 1 + 1, 0, none⟩ (.string x.2.f3)).setCell ⟨b + 1 + 1 + 1 + 1, 0, none⟩ (.bool (!x.2.f3.toList.isEmpty))).drew) ∧
        Below b w ((W.setCell ⟨b + 1 + 1 + 1, 0, none⟩ (.string x.2.f3)).setCell ⟨b + 1 + 1 + 1 + 1, 0, none⟩ (.bool (!x.2.f3.toList.isEmpty))).drew :=
  ⟨(((KeepsOthers.setCell _ _ _).trans (KeepsOthers.setCell _ _ _)).trans (KeepsOthers.drew _)).from _,
    ⟨rfl, pre, x, ⟨rfl, hI2, hx⟩, ((c3.set _).other (by omega) _ : Boxed _ _ 9 _), ((c4.other (by omega) _).set _ : Boxed _ _ 4 _)⟩,
    ((hB.setCell (p := ⟨b + 1 + 1 + 1, 0, none⟩) (by simp; omega) _).setCell (p := ⟨b + 1 + 1 + 1 + 1, 0, none⟩) (by simp; omega) _).drew⟩

set_option maxRecDepth 100000 in
set_option maxHeartbeats 8000000 in
theorem name_in (F : Fence) (n : Nat) (h65 : F.fn 65) (h109 : F.fn 109) (h141 : F.fn 141) (hro : F.round = none) (hn : 4 ≤ n) (A : Option Addr) (c : Nat) (l : List S47) (kind id time : Int) (w : World) (hC : Kd.C k47 w A l.length l) :
    CallsIn F n Tryd.prog 65 #[.slice A l.length c, .int .i64 kind, .int .i64 id, .int .i64 time] w fun e W' =>
      ((e = .returned (.tuple #[.string ⟨#[]⟩, .bool false]) ∧ ∀ x ∈ upto (bk l) l.length, hit kind id time x.2 = false) ∨
       (∃ k, k < l.length ∧ e = .returned (.tuple #[.string (bk l k).2.f3, .bool (!(bk l k).2.f3.toList.isEmpty)]) ∧ hit kind id time (bk l k).2 = true ∧ ∀ j, j < k → hit kind id time (bk l j).2 = false)) ∧ Below w.heap.size w W' := by
  have h1 : 1 ≤ n := by omega
  have hu47 := Tryd.underlying47
  refine callsIn_of_wp_marks Tryd.func65 rfl h65 ?_ hro
  simp only [Tryd.ntmps65, List.size_toArray, List.length_cons, List.length_nil, Nat.reduceAdd, Nat.reduceSub, Array.replicate_succ, Array.replicate_zero, List.push_toArray, List.append_toArray, List.nil_append, List.cons_append]
  gi_wp2_with (gi_at_call 109; refine (backward_in F (n - 1) h109 hro _ _ _ _).mono ?_; rintro e w' ⟨rfl, rfl⟩)
  obtain ⟨W0, hW0⟩ : ∃ W0, ((((((w.alloc (.cells #[.int .i64 kind] 3)).alloc (.cells #[.int .i64 id] 3)).alloc (.cells #[.int .i64 time] 3)).alloc (.cells #[.string ⟨#[]⟩] 9)).alloc (.cells #[.bool false] 4)).alloc (.cells #[.slice A l.length c] 23)) = W0 := ⟨_, rfl⟩
  have hB0 : Below w.heap.size w W0 := by rw [← hW0]; exact ((((((Below.refl _ w).alloc (Nat.le_refl _) _).alloc (by simp) _).alloc (by simp; omega) _).alloc (by simp; omega) _).alloc (by simp; omega) _).alloc (by simp; omega) _
  have hsz : W0.heap.size = w.heap.size + 6 := by rw [← hW0]; simp
  have b0 : Boxed W0 w.heap.size 3 (.int .i64 kind) := by rw [← hW0]; exact (((((Boxed.new w 3 (.int .i64 kind)).alloc _).alloc _).alloc _).alloc _).alloc _
  have b1 : Boxed W0 (w.heap.size + 1) 3 (.int .i64 id) := by
    rw [← hW0]; have h := Boxed.new (w.alloc (.cells #[.int .i64 kind] 3)) 3 (.int .i64 id); simp only [World.size_alloc] at h; exact (((h.alloc _).alloc _).alloc _).alloc _
  have b2 : Boxed W0 (w.heap.size + 1 + 1) 3 (.int .i64 time) := by
    rw [← hW0]; have h := Boxed.new ((w.alloc (.cells #[.int .i64 kind] 3)).alloc (.cells #[.int .i64 id] 3)) 3 (.int .i64 time); simp only [World.size_alloc] at h; exact ((h.alloc _).alloc _).alloc _
  have b3 : Boxed W0 (w.heap.size + 1 + 1 + 1) 9 (.string ⟨#[]⟩) := by
    rw [← hW0]; have h := Boxed.new (((w.alloc (.cells #[.int .i64 kind] 3)).alloc (.cells #[.int .i64 id] 3)).alloc (.cells #[.int .i64 time] 3)) 9 (.string ⟨#[]⟩); simp only [World.size_alloc] at h; exact (h.alloc _).alloc _
  have b4 : Boxed W0 (w.heap.size + 1 + 1 + 1 + 1) 4 (.bool false) := by
    rw [← hW0]; have h := Boxed.new ((((w.alloc (.cells #[.int .i64 kind] 3)).alloc (.cells #[.int .i64 id] 3)).alloc (.cells #[.int .i64 time] 3)).alloc (.cells #[.string ⟨#[]⟩] 9)) 4 (.bool false); simp only [World.size_alloc] at h; exact h.alloc _
  have b5 : Boxed W0 (w.heap.size + 1 + 1 + 1 + 1 + 1) 23 (.slice A l.length c) := by
    rw [← hW0]; have h := Boxed.new (((((w.alloc (.cells #[.int .i64 kind] 3)).alloc (.cells #[.int .i64 id] 3)).alloc (.cells #[.int .i64 time] 3)).alloc (.cells #[.string ⟨#[]⟩] 9)).alloc (.cells #[.bool false] 4)) 23 (.slice A l.length c); simp only [World.size_alloc] at h; exact h
  rw [hW0]
  clear hW0
  refine wpIn_rangeFunc_ownH hro h1 (gf := 141) (lb := #[.pointer (some ⟨w.heap.size + 1 + 1 + 1 + 1 + 1, 0, none⟩)]) rfl h141 (enters_of Tryd.func141 (by kernel_rfl) rfl)
    (backward_stops F (n - 1) h141 hro (by omega) (w.heap.size + 1 + 1 + 1 + 1 + 1) w.heap.size A c l W0 (by omega) (by omega) b5 (fun W' h' => Kd.C_below hC (hB0.trans h'))) KpB.trans (kpB_b (by omega) (by omega)) (Below.refl _ _) (fun _ => rfl)
    (fun pre W => RI w.heap.size kind id time pre W ∧ Below w.heap.size w W)
    (fun c pre W => (c = .ret ∧ RX w.heap.size kind id time pre W) ∧ Below w.heap.size w W)
    (OwnFrom.and (Own.from (rI_own _ _ _ _) _) (ownFrom_below (Nat.le_refl _) (by omega)))
    (fun c => OwnFrom.and (Own.from (fun s X Y row hs hg hr => ⟨hs.1, rX_own _ _ _ _ s X Y row hs.2 hg hr⟩) _) (ownFrom_below (Nat.le_refl _) (by omega)))
    ⟨⟨⟨⟨⟨⟨b0, b1⟩, b2⟩, b3⟩, b4⟩, by simp, by omega⟩, hB0⟩
    (fun x a' W => ∃ Bx, w.heap.size + 6 ≤ Bx ∧ Blk W Bx #[.int .i64 x.2.f0, .int .i64 x.2.f1, .int .i64 x.2.f2, .string x.2.f3] 47 ∧
      a' = { tmps := #[.slice A l.length c, .int .i64 kind, .int .i64 id, .int .i64 time, undef, .pointer (some ⟨w.heap.size, 0, none⟩), .pointer (some ⟨w.heap.size + 1, 0, none⟩), .pointer (some ⟨w.heap.size + 1 + 1, 0, none⟩), .pointer (some ⟨w.heap.size + 1 + 1 + 1, 0, none⟩), .pointer (some ⟨w.heap.size + 1 + 1 + 1 + 1, 0, none⟩), undef, .pointer (some ⟨Bx, 0, none⟩), .slice A l.length c, .func (.func 141) #[] #[.pointer (some ⟨w.heap.size + 1 + 1 + 1 + 1 + 1, 0, none⟩)], .int .i64 x.1, enc47 x.2, undef, undef, undef, undef, undef, undef, undef, undef, undef, undef, undef, undef, undef, undef, undef, undef, undef, undef, undef, undef, undef], defers := [] })
    (fun x a' _ X Y row hs hg hr => by obtain ⟨Bx, h1, h2, h3⟩ := hs; exact ⟨Bx, h1, blk_own Bx 47 (fun (_ : Unit) => #[.int .i64 x.2.f0, .int .i64 x.2.f1, .int .i64 x.2.f2, .string x.2.f3]) () X Y row h2 hg (fun r e => (hr r e).2), h3⟩)
    ?assign ?body ?done ?stop
  case assign =>
    rintro lb pre x W K ⟨hI, hB⟩ hK
    have hlt : w.heap.size + 6 ≤ W.heap.size := hI.2.2
    dsimp only [enc47]
    gi_wp2
    refine hK _ _ ((KeepsOthers.alloc _ _).from _) ⟨(Below.refl _ W).alloc hB.size _, Below.heap_alloc W _ _ (by omega)⟩
      ⟨⟨⟨⟨⟨⟨hI.1.1.1.1.1.alloc _, hI.1.1.1.1.2.alloc _⟩, hI.1.1.1.2.alloc _⟩, hI.1.1.2.alloc _⟩, hI.1.2.alloc _⟩, hI.2.1, by simp; omega⟩, hB.alloc hB.size _⟩ ⟨W.heap.size, hlt, Blk.new W 47 _, rfl⟩
  case body =>
    rintro lb pre x a' W hl ⟨r, hr⟩ ⟨hI, hB⟩ ⟨Bx, hBx, bX, rfl⟩ hlt
    obtain ⟨⟨⟨⟨⟨c0, c1⟩, c2⟩, c3⟩, c4⟩, hI2, hI3⟩ := hI
    have e0 := c0.cell
    have e1 := c1.cell
    have e2 := c2.cell
    have e3 := c3.cell
    have e4 := c4.cell
    have f3 := c3.frozen
    have f4 := c4.frozen
    have x0 : W.cell? ⟨Bx, 0, none⟩ = some (.int .i64 x.2.f0) := (bX.cell 0).trans rfl
    have x1 : W.cell? ⟨Bx, 1, none⟩ = some (.int .i64 x.2.f1) := (bX.cell 1).trans rfl
    have x2 : W.cell? ⟨Bx, 2, none⟩ = some (.int .i64 x.2.f2) := (bX.cell 2).trans rfl
    have x3 : W.cell? ⟨Bx, 3, none⟩ = some (.string x.2.f3) := (bX.cell 3).trans rfl
    have hgo : hit kind id time x.2 = false → ∀ y ∈ pre ++ [x], hit kind id time y.2 = false := fun hx y hy => (List.mem_append.1 hy).elim (hI2 y) (fun e => by simp at e; subst e; exact hx)
    by_cases h1 : x.2.f1 = kind
    · have h1b : (x.2.f1 == kind) = true := by simpa using h1
      by_cases h2 : x.2.f2 = id
      · have h2b : (x.2.f2 == id) = true := by simpa using h2
        by_cases h3 : x.2.f0 ≤ time
        · have h3b : decide (x.2.f0 ≤ time) = true := by simpa using h3
          have hx : hit kind id time x.2 = true := by simp [hit, h1, h2, h3]
          clear hgo h1 h2
          have hmx : Tryd.prog.follows .mixedOrders = true := by kernel_rfl
          gi_wp2
          gi_region_with_o fail
          all_goals gi_wp2
          all_goals exact hit_end hB hI2 hx c3 c4
        · have h3b : decide (x.2.f0 ≤ time) = false := by simpa using h3
          have hx : hit kind id time x.2 = false := by simp [hit, h3]
          have H := Lib.hid (hgo hx)
          clear hgo h1 h2 hx
          gi_wp2
          exact ⟨KeepsFrom.refl _ _, KpB.refl _ _ _, ⟨⟨⟨⟨⟨c0, c1⟩, c2⟩, c3⟩, c4⟩, H.out, hI3⟩, hB⟩
      · have h2b : (x.2.f2 == id) = false := by simpa using h2
        have hx : hit kind id time x.2 = false := by simp [hit, h2]
        have H := Lib.hid (hgo hx)
        clear hgo h1 h2 hx
        gi_wp2
        exact ⟨KeepsFrom.refl _ _, KpB.refl _ _ _, ⟨⟨⟨⟨⟨c0, c1⟩, c2⟩, c3⟩, c4⟩, H.out, hI3⟩, hB⟩
    · have h1b : (x.2.f1 == kind) = false := by simpa using h1
      have hx : hit kind id time x.2 = false := by simp [hit, h1]
      have H := Lib.hid (hgo hx)
      clear hgo h1 hx
      gi_wp2
      exact ⟨KeepsFrom.refl _ _, KpB.refl _ _ _, ⟨⟨⟨⟨⟨c0, c1⟩, c2⟩, c3⟩, c4⟩, H.out, hI3⟩, hB⟩
  case done =>
    rintro D ys W hD rfl ⟨hI, hB⟩ hK
    obtain ⟨⟨⟨⟨⟨c0, c1⟩, c2⟩, c3⟩, c4⟩, hI2, hI3⟩ := hI
    have e3 := c3.cell
    have e4 := c4.cell
    have f3 := c3.frozen
    have f4 := c4.frozen
    have HN := Lib.hid hI2
    clear hI2
    gi_wp2
    have hK' := (KeepsOthers.setCell (W.setCell ⟨w.heap.size + 1 + 1 + 1, 0, none⟩ (.string ⟨#[]⟩)) ⟨w.heap.size + 1 + 1 + 1 + 1, 0, none⟩ (.bool false)).same D _ ((KeepsOthers.setCell W ⟨w.heap.size + 1 + 1 + 1, 0, none⟩ (.string ⟨#[]⟩)).same D _ hK rfl) rfl
    refine ⟨by simp, .inl ⟨_, _, rfl, run_takeDeferred hK', ?_⟩⟩
    have g3 : Boxed ((W.setCell ⟨w.heap.size + 1 + 1 + 1, 0, none⟩ (.string ⟨#[]⟩)).setCell ⟨w.heap.size + 1 + 1 + 1 + 1, 0, none⟩ (.bool false)) (w.heap.size + 1 + 1 + 1) 9 (.string ⟨#[]⟩) := (c3.set _).other (by omega) _
    have g4 : Boxed ((W.setCell ⟨w.heap.size + 1 + 1 + 1, 0, none⟩ (.string ⟨#[]⟩)).setCell ⟨w.heap.size + 1 + 1 + 1 + 1, 0, none⟩ (.bool false)) (w.heap.size + 1 + 1 + 1 + 1) 4 (.bool false) := (c4.other (by omega) _).set _
    have hc5 := cell_kept g3.cell (grownBy_putObj' _ D (.deferred none)) (fun r e => by cases e; exact ⟨_, hK', rfl⟩)
    have hc6 := cell_kept g4.cell (grownBy_putObj' _ D (.deferred none)) (fun r e => by cases e; exact ⟨_, hK', rfl⟩)
    refine ⟨.tuple #[.string ⟨#[]⟩, .bool false], ?_, .inl ⟨rfl, HN.out⟩, ((hB.setCell (p := ⟨w.heap.size + 1 + 1 + 1, 0, none⟩) (by simp; omega) _).setCell (p := ⟨w.heap.size + 1 + 1 + 1 + 1, 0, none⟩) (by simp; omega) _).trans (belowK_b (w := w) (Nat.le_refl _) _ D _ _ (by omega) hK' rfl rfl)⟩
    simp [results, Tryd.f65, go_sem, hc5, hc6]
  case stop =>
    rintro D c' pre W hD ⟨k, hk, rfl⟩ ⟨⟨rfl, ini, last, ⟨e1, e2, e3⟩, c3, c4⟩, hB⟩ hK
    have H2 := Lib.hid e2
    have H3 := Lib.hid e3
    have H1 := Lib.hid e1
    clear e1 e2 e3
    gi_wp2
    refine ⟨by simp, .inl ⟨_, _, rfl, run_takeDeferred hK, ?_⟩⟩
    have hc5 := cell_kept c3.cell (grownBy_putObj' _ D (.deferred none)) (fun r e => by cases e; exact ⟨_, hK, rfl⟩)
    have hc6 := cell_kept c4.cell (grownBy_putObj' _ D (.deferred none)) (fun r e => by cases e; exact ⟨_, hK, rfl⟩)
    have e1 := H1.out
    have e2 := H2.out
    have e3 := H3.out
    obtain ⟨k', rfl⟩ : ∃ k', k = k' + 1 := by
      cases k with
      | zero => simp [upto] at e1
      | succ k' => exact ⟨k', rfl⟩
    rw [upto_succ] at e1
    obtain ⟨rfl, e5⟩ := List.append_inj' e1 rfl
    obtain rfl : bk l k' = last := by simpa using e5
    refine ⟨.tuple #[.string (bk l k').2.f3, .bool (!(bk l k').2.f3.toList.isEmpty)], ?_, .inr ⟨k', by omega, rfl, e3, fun j hj => e2 (bk l j) (by simp only [upto, List.mem_map, List.mem_range]; exact ⟨j, hj, rfl⟩)⟩, hB.trans (belowK_b (w := w) (Nat.le_refl _) W D _ _ (by omega) hK rfl rfl)⟩
    simp [results, Tryd.f65, go_sem, hc5, hc6]

end Go.Proofs.YtjnlmmjadlidlaaDoor.PNames
