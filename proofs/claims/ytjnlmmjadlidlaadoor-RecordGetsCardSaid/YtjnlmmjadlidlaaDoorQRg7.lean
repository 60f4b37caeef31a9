/-
  A part of the proof of this: RecordGets holds for every input: Get returns the first pair of a name (the card).
-/
import Derived.Deep.Slices
import Derived.Test.YtjnlmmjadlidlaaDoorRows
import Derived.LaidMore
import Derived.MakeChecks
import Derived.Stop.LaidErr
import Derived.Lib.LaidTab
import Derived.Deep.Strs
import Derived.Test.YtjnlmmjadlidlaaDoorQRg6
section
namespace Go.Proofs.YtjnlmmjadlidlaaDoor.Open
open Go.ChangeShapes Go.WideShapes Go.RowKit Go.Proofs.YtjnlmmjadlidlaaDoorW.PrintWords
section
variable {H : Type} (enc : TypeId × Value → H) (P : Program) (w : World) (base : Nat) (spare : Nat → Bool) (held : Bool)
def Opens {α : Type} (t : TypeId) (d : Kd α) (Q : α → Prop) : Prop :=
  ∀ (n : Nat) (cs : List Value) (x : DataW H × List MemPlace), DataW.trod enc P w base spare held n t cs = some x → ∃ y, d.K w y cs ∧ Q y
def Chain {α : Type} (off : Nat) (fs : List Field) (d : Kd α) (Q : α → Prop) : Prop :=
  ∀ (n : Nat) (cs : List Value), cs.length = off + d.sz → (∀ f ∈ fs, ∃ x, DataW.trod enc P w base spare held n f.type ((cs.drop f.offset).take (P.cellsOf f.type)) = some x) → ∃ y, d.K w y (cs.drop off) ∧ Q y
end
section
variable {H : Type} {enc : TypeId × Value → H} {P : Program} {w : World} {base : Nat} {spare : Nat → Bool} {held : Bool}
theorem opens_int {t : TypeId} {k : IntKind} (ht : P.underlying t = some (.int k)) : Opens enc P w base spare held t (Kd.int k) (fun n => (Lit.int k n).wf = true) := by
  intro n cs x h
  obtain ⟨m, rfl, _, hw⟩ := DataW.trod_int ht h
  exact ⟨m, rfl, hw⟩
theorem opens_string {t : TypeId} (ht : P.underlying t = some .string) : Opens enc P w base spare held t Kd.string (fun s => s.size ≤ maxLen) := by
  intro n cs x h
  obtain ⟨s, rfl, _, hw⟩ := DataW.trod_string ht h
  exact ⟨s, rfl, hw⟩
theorem opens_cells {α : Type} {t e : TypeId} {d : Kd α} {Q : α → Prop} (ht : P.underlying t = some (.slice e)) (hc : P.cellsOf e = d.sz) (hE : Opens enc P w base spare held e d Q) (n : Nat) (cs : List Value) (x : DataW H × List MemPlace)
    (h : DataW.trod enc P w base spare held n t cs = some x) : ∃ (A : Option Addr) (c : Nat) (ys : List α), cs = [.slice A ys.length c] ∧ ys.length ≤ c ∧ c ≤ maxLen ∧ d.C w A ys.length ys ∧ ∀ y ∈ ys, Q y := by
  rcases Go.Deep.open_slice ht h with ⟨rfl, _⟩ | ⟨a, len, cap, m, k, D, Pl, rfl, hb, hl, hm, hmm, _, hx⟩
  · exact ⟨none, 0, [], rfl, Nat.le_refl _, Nat.zero_le _, ⟨rfl, Nat.zero_le _, fun h => absurd h (Nat.lt_irrefl _)⟩, fun _ h => by cases h⟩
  · have hlm : len ≤ m := by rw [hmm]; split <;> omega
    have each : ∀ i, i < len → ∃ y : α, (∃ cs', w.cells? base (a.add (i * d.sz)) d.sz = some cs' ∧ d.K w y cs') ∧ Q y := by
      intro i hi
      obtain ⟨cs', h1, h2⟩ := hx i (by omega)
      obtain ⟨y, hK, hQ⟩ := hE _ _ _ h2
      rw [hc] at h1
      exact ⟨y, ⟨cs', h1, hK⟩, hQ⟩
    have hml : maxLen = 9223372036854775807 := by decide
    have build : ∀ n, n ≤ len → ∃ ys : List α, ys.length = n ∧ ∀ i y, ys[i]? = some y → (∃ cs', w.cells? base (a.add (i * d.sz)) d.sz = some cs' ∧ d.K w y cs') ∧ Q y := by
      intro n
      induction n with
      | zero => intro _; exact ⟨[], rfl, fun i y hy => by simp at hy⟩
      | succ n ih =>
        intro hn
        obtain ⟨ys, hlen, hys⟩ := ih (by omega)
        obtain ⟨y, hy⟩ := each n (by omega)
        refine ⟨ys ++ [y], by simp [hlen], fun i z hz => ?_⟩
        by_cases hi : i < ys.length
        · rw [List.getElem?_append_left hi] at hz; exact hys i z hz
        · rw [List.getElem?_append_right (by omega)] at hz
          have hin : i - ys.length = 0 := by
            have := (List.getElem?_eq_some_iff.1 hz).1
            simp at this
            omega
          rw [hin] at hz
          have hzy : y = z := by simpa using hz
          have hi' : i = n := by omega
          subst hzy
          subst hi'
          exact hy
    obtain ⟨ys, hlen, hys⟩ := build len (Nat.le_refl _)
    subst hlen
    refine ⟨some a, cap, ys, rfl, hl, hm, ⟨rfl, by omega, fun _ => ⟨a, rfl, fun j p hj => ?_⟩⟩, fun y hy => ?_⟩
    · obtain ⟨⟨cs', h1, hK⟩, _⟩ := hys j p hj
      obtain ⟨_, hcl, hcell⟩ := World.cells?_some h1
      refine ⟨cs', hcl, hK, fun i u hu => ?_⟩
      have hi : i < cs'.length := (List.getElem?_eq_some_iff.1 hu).1
      have := hcell i (by omega)
      rw [Go.Deep.add_add] at this
      rw [this, hu]
    · obtain ⟨i, hi⟩ := List.getElem?_of_mem hy
      exact (hys i y hi).2
theorem opens_slice {α : Type} {t e : TypeId} {d : Kd α} {Q : α → Prop} (ht : P.underlying t = some (.slice e)) (hc : P.cellsOf e = d.sz) (hE : Opens enc P w base spare held e d Q) :
    Opens enc P w base spare held t (Kd.slice e d) (fun ys => ys.length ≤ maxLen ∧ ∀ y ∈ ys, Q y) := by
  intro n cs x h
  obtain ⟨A, c, ys, rfl, hl, hm, hC, hQ⟩ := opens_cells ht hc hE n cs x h
  exact ⟨ys, ⟨A, c, rfl, hl, hC⟩, Nat.le_trans hl hm, hQ⟩
theorem chain_one {α : Type} {off : Nat} {f : Field} {d : Kd α} {Q : α → Prop} (ho : f.offset = off) (hc : P.cellsOf f.type = d.sz) (h : Opens enc P w base spare held f.type d Q) : Chain enc P w base spare held off [f] d Q := by
  intro n cs hl hx
  obtain ⟨x, hx⟩ := hx f (List.mem_singleton.2 rfl)
  rw [ho, hc, List.take_of_length_le (by rw [List.length_drop]; omega)] at hx
  exact h _ _ _ hx
theorem chain_cons {α β : Type} {off : Nat} {f : Field} {fs : List Field} {a : Kd α} {b : Kd β} {Q : α → Prop} {R : β → Prop} (ho : f.offset = off) (hc : P.cellsOf f.type = a.sz) (h : Opens enc P w base spare held f.type a Q)
    (hr : Chain enc P w base spare held (off + a.sz) fs b R) : Chain enc P w base spare held off (f :: fs) (Kd.pair a b) (fun p => Q p.1 ∧ R p.2) := by
  intro n cs hl hx
  have hl' : cs.length = off + (a.sz + b.sz) := hl
  obtain ⟨x, hf⟩ := hx f (List.mem_cons_self ..)
  rw [ho, hc] at hf
  obtain ⟨y, hK, hQ⟩ := h _ _ _ hf
  obtain ⟨z, hKz, hR⟩ := hr n cs (by omega) (fun g hg => hx g (List.mem_cons_of_mem _ hg))
  refine ⟨(y, z), ⟨_, _, ?_, hK, hKz⟩, hQ, hR⟩
  rw [← List.drop_drop, List.take_append_drop]
theorem opens_struct {α : Type} {t : TypeId} {fs : Array Field} {d : Kd α} {Q : α → Prop} (ht : P.underlying t = some (.struct fs)) (hc : P.cellsOf t = d.sz) (h : Chain enc P w base spare held 0 fs.toList d Q) : Opens enc P w base spare held t d Q := by
  intro n cs x hx
  obtain ⟨xs, k, _, rfl, hl, hlen, hf⟩ := DataW.trod_struct ht hx
  obtain ⟨y, hK, hQ⟩ := h k cs (by omega) (fun f hf' => by
    obtain ⟨i, hi⟩ := List.getElem?_of_mem hf'
    rw [Array.getElem?_toList] at hi
    have hlt : i < xs.length := by rw [hlen]; exact (Array.getElem?_eq_some_iff.1 hi).1
    exact ⟨xs[i], by rw [hf i f hi, List.getElem?_eq_getElem hlt]⟩)
  exact ⟨y, by simpa using hK, hQ⟩
theorem opens_iso {α β : Type} {t : TypeId} {d : Kd α} {Q : α → Prop} {f : β → α} (g : α → β) (hg : ∀ y, f (g y) = y) (h : Opens enc P w base spare held t d Q) : Opens enc P w base spare held t (Kd.iso d f) (fun x => Q (f x)) := by
  intro n cs x hx
  obtain ⟨y, hK, hQ⟩ := h n cs x hx
  exact ⟨g y, show d.K w (f (g y)) cs by rw [hg]; exact hK, show Q (f (g y)) by rw [hg]; exact hQ⟩
theorem opens_agg {α : Type} {r : Reach} {b0 : Nat} {t : TypeId} {fs : Array Field} {v : Value} {d : Kd α} {Q : α → Prop} {D : DataW H} {ps : List MemPlace} (ht : P.underlying t = some (.struct fs)) (hv : Value.okWide P w r b0 t v)
    (hE : Opens enc P w base spare held t d Q) (h : DataW.Trod enc P w base spare held t v D ps) : ∃ (cs : Array Value) (y : α), v = .agg cs ∧ d.K w y cs.toList ∧ Q y := by
  obtain ⟨cs, rfl, _⟩ := okWide_struct ht hv
  obtain ⟨n, h⟩ := h
  obtain ⟨y, hK, hQ⟩ := hE n _ _ h
  exact ⟨cs, y, rfl, by simpa [Value.cells] using hK, hQ⟩
end
end Go.Proofs.YtjnlmmjadlidlaaDoor.Open
end
section
namespace Go.Proofs.YtjnlmmjadlidlaaDoor.Open3
open Go.ChangeShapes Go.WideShapes Go.RowKit Go.Proofs.YtjnlmmjadlidlaaDoorW.PrintWords Go.Proofs.YtjnlmmjadlidlaaDoor.PRec Go.Proofs.YtjnlmmjadlidlaaDoor.Open
def QP (x : S34) : Prop := x.f0.size ≤ maxLen ∧ (Lit.int .i64 x.f1).wf = true ∧ (Lit.int .i64 x.f2).wf = true ∧ x.f3.size ≤ maxLen
def QR (x : S50) : Prop := (Lit.int .i64 x.f0).wf = true ∧ (Lit.int .i64 x.f1).wf = true ∧ (Lit.int .i64 x.f2).wf = true ∧ x.f3.length ≤ maxLen ∧ ∀ y ∈ x.f3, QP y
section
variable {H : Type} {enc : TypeId × Value → H} {w : World} {base : Nat} {spare : Nat → Bool} {held : Bool}
theorem opens34 : Opens enc Tryd.prog w base spare held 34 k34 QP :=
  opens_iso (f := fun x : S34 => (x.f0, x.f1, x.f2, x.f3)) (fun p => (⟨p.1, p.2.1, p.2.2.1, p.2.2.2⟩ : S34)) (fun _ => rfl)
    (opens_struct Tryd.underlying34 (by kernel_rfl) (chain_cons rfl (by kernel_rfl) (opens_string Tryd.underlying9) (chain_cons rfl (by kernel_rfl) (opens_int Tryd.underlying3) (chain_cons rfl (by kernel_rfl) (opens_int Tryd.underlying3)
      (chain_one rfl (by kernel_rfl) (opens_string Tryd.underlying9))))))
theorem opens50 : Opens enc Tryd.prog w base spare held 50 k50 QR :=
  opens_iso (f := fun x : S50 => (x.f0, x.f1, x.f2, x.f3)) (fun p => (⟨p.1, p.2.1, p.2.2.1, p.2.2.2⟩ : S50)) (fun _ => rfl)
    (opens_struct Tryd.underlying50 (by kernel_rfl) (chain_cons rfl (by kernel_rfl) (opens_int Tryd.underlying3) (chain_cons rfl (by kernel_rfl) (opens_int Tryd.underlying3) (chain_cons rfl (by kernel_rfl) (opens_int Tryd.underlying3)
      (chain_one rfl (by kernel_rfl) (opens_slice Tryd.underlying35 (by kernel_rfl) opens34))))))
end
end Go.Proofs.YtjnlmmjadlidlaaDoor.Open3
end
section
namespace Go.Proofs.YtjnlmmjadlidlaaDoor.Pure3
open Go.RowKit Go.Proofs.YtjnlmmjadlidlaaDoor.PRec Go.Proofs.YtjnlmmjadlidlaaDoorW.PrintWords
def getFrom (nm : ByteArray) (ps : List S34) : Nat → Nat → ByteArray × Int × Int × ByteArray × Bool
  | 0, _ => (⟨#[]⟩, 0, 0, ⟨#[]⟩, false)
  | d + 1, i => if (rd_T34 ps i).f0.toList = nm.toList then ((rd_T34 ps i).f0, (rd_T34 ps i).f1, (rd_T34 ps i).f2, (rd_T34 ps i).f3, true) else getFrom nm ps d (i + 1)
theorem get_l0 (nm : ByteArray) (ps : List S34) (hl : ps.length ≤ 1000) (d : Nat) : ∀ (k i : Nat), i + d = ps.length → d < k → record_Get.l0 k nm ps (ps.length : Int) i = some (getFrom nm ps d i) := by
  induction d with
  | zero =>
    intro k i hi hk
    obtain ⟨k, rfl⟩ : ∃ m, k = m + 1 := ⟨k - 1, by omega⟩
    simp only [record_Get.l0, getFrom]
    rw [if_neg (by omega)]
  | succ d ih =>
    intro k i hi hk
    obtain ⟨k, rfl⟩ : ∃ m, k = m + 1 := ⟨k - 1, by omega⟩
    simp only [record_Get.l0, getFrom]
    rw [if_pos (by omega), if_pos (by omega), if_pos (by omega)]
    by_cases h : (rd_T34 ps i).f0.toList = nm.toList
    · rw [if_pos h, if_pos h]
    · rw [if_neg h, if_neg h, wsucc (n := ps.length) (by omega) (by omega)]
      exact ih k (i + 1) (by omega) (by omega)
theorem refget_l0 (nm : ByteArray) (t tm se : Int) (ps : List S34) (hl : ps.length ≤ 1000) (d : Nat) : ∀ (k i : Nat), i + d = ps.length → d < k → kauditref03_Get.l0 k nm i t tm se ps = some (getFrom nm ps d i) := by
  induction d with
  | zero =>
    intro k i hi hk
    obtain ⟨k, rfl⟩ : ∃ m, k = m + 1 := ⟨k - 1, by omega⟩
    simp only [kauditref03_Get.l0, getFrom]
    rw [if_neg (by omega)]
  | succ d ih =>
    intro k i hi hk
    obtain ⟨k, rfl⟩ : ∃ m, k = m + 1 := ⟨k - 1, by omega⟩
    simp only [kauditref03_Get.l0, getFrom]
    rw [if_pos (by omega), if_pos (by omega)]
    by_cases h : (rd_T34 ps i).f0.toList = nm.toList
    · rw [if_pos h, if_pos h]
    · rw [if_neg h, if_neg h, wsucc (n := ps.length) (by omega) (by omega)]
      exact ih k (i + 1) (by omega) (by omega)
def getS (nm : ByteArray) (ps : List S34) := getFrom nm ps ps.length 0
theorem get_ev (nm : ByteArray) (x : S50) (hl : x.f3.length ≤ 1000) : Ev (fun k => record_Get.f k x.f0 x.f1 x.f2 x.f3 nm) (getS nm x.f3) :=
  ⟨x.f3.length + 1, fun k hk => get_l0 nm x.f3 hl x.f3.length k 0 (by omega) (by omega)⟩
theorem refget_ev (nm : ByteArray) (x : S50) (hl : x.f3.length ≤ 1000) : Ev (fun k => kauditref03_Get.f k x.f0 x.f1 x.f2 x.f3 nm) (getS nm x.f3) :=
  ⟨x.f3.length + 1, fun k hk => refget_l0 nm x.f0 x.f1 x.f2 x.f3 hl x.f3.length k 0 (by omega) (by omega)⟩
theorem bne_off {b : Bool} : ¬ ((b != b) = true) := by simp
theorem pair_off (a b : ByteArray) (m n : Int) : ¬ ((!(a.toList == a.toList) || (!(m == m) || (!(n == n) || (!(b.toList == b.toList))))) = true) := by simp
theorem gets_l0 (L : List ByteArray) (hL : L.length ≤ 100) (x q : S50) (hx : x.f3.length ≤ 1000) (hq : q.f3.length ≤ 1000) (d : Nat) : ∀ i : Nat, i + d = L.length →
    Ev (fun k => kauditlaw03_RecordGets.l0 k L (i : Int) x.f0 x.f1 x.f2 x.f3 q.f0 q.f1 q.f2 q.f3) true := by
  induction d with
  | zero =>
    intro i hi
    refine Ev.step (f := fun k => (kauditlaw03_awake.f k).bind fun t304 => (some t304)) (fun k => ?_) (Ev.bind awake_ev (Ev.now true))
    simp only [kauditlaw03_RecordGets.l0]
    rw [if_neg (by omega)]
  | succ d ih =>
    intro i hi
    generalize hnm : rdOf ByteArray.empty L (i : Int) = nm
    refine Ev.step (f := fun k => (record_Get.f k x.f0 x.f1 x.f2 x.f3 nm).bind fun bt306 => ((kauditref03_Get.f k x.f0 x.f1 x.f2 x.f3 nm).bind fun bt313 => ((record_Get.f k q.f0 q.f1 q.f2 q.f3 nm).bind fun bt320 => ((kauditref03_Get.f k q.f0 q.f1 q.f2 q.f3 nm).bind fun bt327 => (if (bt306.2.2.2.2 != bt313.2.2.2.2) = true then (some false) else (if (!(bt306.1.toList == bt313.1.toList) || (!(bt306.2.1 == bt313.2.1) || (!(bt306.2.2.1 == bt313.2.2.1) || (!(bt306.2.2.2.1.toList == bt313.2.2.2.1.toList))))) = true then (some false) else (if (bt320.2.2.2.2 != bt327.2.2.2.2) = true then (some false) else (if (!(bt320.1.toList == bt327.1.toList) || (!(bt320.2.1 == bt327.2.1) || (!(bt320.2.2.1 == bt327.2.2.1) || (!(bt320.2.2.2.1.toList == bt327.2.2.2.1.toList))))) = true then (some false) else (kauditlaw03_RecordGets.l0 k L ((i + 1 : Nat) : Int) x.f0 x.f1 x.f2 x.f3 q.f0 q.f1 q.f2 q.f3))))))))) (fun k => ?_) ?_
    · simp only [kauditlaw03_RecordGets.l0]
      rw [if_pos (by omega), if_pos (by omega), hnm, wsucc (n := L.length) (by omega) (by omega)]
    · refine Ev.bind (get_ev nm x hx) (Ev.bind (refget_ev nm x hx) (Ev.bind (get_ev nm q hq) (Ev.bind (refget_ev nm q hq) ?_)))
      exact Ev.congr (fun k => by rw [if_neg bne_off, if_neg (pair_off _ _ _ _), if_neg bne_off, if_neg (pair_off _ _ _ _)]) (ih (i + 1) (by omega))
theorem glight_l0 {t time serial : Int} {ps : List S34} (hl : ps.length ≤ 40) (d : Nat) : ∀ i : Nat, i + d = ps.length → ∃ b, Ev (fun k => kauditlaw03_light.l0 k (i : Int) t time serial ps) b := by
  induction d with
  | zero =>
    intro i hi
    refine ⟨true, Ev.step (f := fun _ => some true) (fun k => ?_) (Ev.now true)⟩
    simp only [kauditlaw03_light.l0]
    rw [if_neg (by omega)]
  | succ d ih =>
    intro i hi
    by_cases h1 : ((rd_T34 ps i).f0.size : Int) > 40
    · refine ⟨false, Ev.step (f := fun _ => some false) (fun k => ?_) (Ev.now false)⟩
      simp only [kauditlaw03_light.l0]
      rw [if_pos (by omega), if_pos (by omega), if_pos h1]
    · by_cases h2 : ((rd_T34 ps i).f3.size : Int) > 700
      · refine ⟨false, Ev.step (f := fun _ => some false) (fun k => ?_) (Ev.now false)⟩
        simp only [kauditlaw03_light.l0]
        rw [if_pos (by omega), if_pos (by omega), if_neg h1, if_pos h2]
      · obtain ⟨b, hb⟩ := ih (i + 1) (by omega)
        refine ⟨b, Ev.step (f := fun k => kauditlaw03_light.l0 k ((i + 1 : Nat) : Int) t time serial ps) (fun k => ?_) hb⟩
        simp only [kauditlaw03_light.l0]
        rw [if_pos (by omega), if_pos (by omega), if_neg h1, if_neg h2, wsucc (n := ps.length) (by omega) (by omega)]
theorem glight_ev (t time serial : Int) (ps : List S34) : ∃ b, Ev (fun k => kauditlaw03_light.f k t time serial ps) b ∧ (b = true → ps.length ≤ 40) := by
  unfold kauditlaw03_light.f
  by_cases h : (ps.length : Int) > 40
  · exact ⟨false, Ev.congr (fun k => if_pos h) (Ev.now false), fun h => by cases h⟩
  · obtain ⟨b, hb⟩ := glight_l0 (t := t) (time := time) (serial := serial) (ps := ps) (by omega) ps.length 0 (by omega)
    exact ⟨b, Ev.congr (fun k => if_neg h) hb, fun _ => by omega⟩
theorem RecordGets (a0 : S50) (a1 : ByteArray) (l2 : List Int) (_hq : Open3.QR a0) (_w1 : a1.size ≤ 140737488351232) (_hm : l2.length ≤ maxLen) (_hs : l2.length * 8 ≤ 140737488351232) (_hw : ∀ x ∈ l2, (Lit.int .i64 x).wf = true) :
    ∃ k, kauditlaw03_RecordGets.f k a0.f0 a0.f1 a0.f2 a0.f3 a1 l2 = some true := by
  obtain ⟨b, hb, hlen⟩ := glight_ev a0.f0 a0.f1 a0.f2 a0.f3
  refine Ev.rounds ?_
  unfold kauditlaw03_RecordGets.f
  refine Ev.bind hb ?_
  cases b with
  | false => exact Ev.congr (fun k => if_neg Bool.false_ne_true) (Ev.bind awake_ev (Ev.now true))
  | true =>
    have hl := hlen rfl
    obtain ⟨q, j, hq, _, _, hlq⟩ := srecord_f (l := l2) (i := 0) (m := 0) ⟨by omega, by omega⟩ (by omega)
    refine Ev.congr (fun k => if_pos rfl) ?_
    simp only [kauditmake_New.f, Option.bind_some]
    refine Ev.bind hq ?_
    exact gets_l0 [a1, (⟨#[97]⟩ : ByteArray), (⟨#[117, 105, 100]⟩ : ByteArray), (⟨#[120, 95, 49]⟩ : ByteArray)] (by simp) a0 q (by omega) (by omega) 4 0 rfl
end Go.Proofs.YtjnlmmjadlidlaaDoor.Pure3
end
section
namespace Go.Proofs.YtjnlmmjadlidlaaDoor.R3
open Go.RowKit Go.ChangeShapes
theorem own : ownKnob Tryd.prog.godebug = none := by kernel_rfl
theorem door_met03 (os : Os) (args : Array Value) : laidMetH Tryd.prog Rows.recordChecksRow.laid ((World.doorLaid Tryd.prog 400 os).forCall (fun _ _ => 0) ⟨#[], args, []⟩).memory :=
  laidMetH_of_parts3 (fuel := 8) (laidMet_of_run' 8 (by kernel_rfl) (by kernel_rfl)) (by kernel_rfl) (by kernel_rfl)
set_option maxRecDepth 100000 in
theorem elem_cells {H : Type} {enc : TypeId × Value → H} {w : World} {base : Nat} {sp : Nat → Bool} {held : Bool} {fuel : Nat} {cs : List Value} {s : List UInt8} {n : Int} {b : Bool} {p : List MemPlace}
    (h : DataW.trod enc Tryd.prog w base sp held fuel 121 cs = some (.agg [.lit (.string s), .lit (.int .i64 n), .lit (.bool b)], p)) : cs = PRec.typeCells (s, n, b) := by
  obtain ⟨y0, y1, y2, k, hx, hl, h0, h1, h2⟩ := Go.Deep.trod_struct3 Tryd.underlying121 h
  have hl3 : cs.length = 3 := hl.trans (by kernel_rfl)
  obtain ⟨c0, c1, c2, rfl⟩ : ∃ c0 c1 c2, cs = [c0, c1, c2] := by
    match cs, hl3 with
    | [a, b, c], _ => exact ⟨a, b, c, rfl⟩
  simp only [Prod.mk.injEq, DataW.agg.injEq, List.cons.injEq] at hx
  obtain ⟨⟨e0, e1, e2, _⟩, _⟩ := hx
  have k0 : Tryd.prog.cellsOf 9 = 1 := by kernel_rfl
  have k1 : Tryd.prog.cellsOf 3 = 1 := by kernel_rfl
  have k2 : Tryd.prog.cellsOf 4 = 1 := by kernel_rfl
  obtain ⟨s0, q0, r0, _⟩ := DataW.trod_string Tryd.underlying9 h0
  obtain ⟨n0, q1, r1, _⟩ := DataW.trod_int Tryd.underlying3 h1
  obtain ⟨b0, q2, r2⟩ := DataW.trod_bool Tryd.underlying4 h2
  simp [k0] at q0
  simp [k1] at q1
  simp [k2] at q2
  rw [r0] at e0
  rw [r1] at e1
  rw [r2] at e2
  simp only [DataW.lit.injEq, Lit.string.injEq, Lit.int.injEq, Lit.bool.injEq, true_and] at e0 e1 e2
  subst q0 q1 q2
  show _ = [Value.string ⟨s.toArray⟩, Value.int .i64 n, Value.bool b]
  rw [e0, e1, e2]
theorem triples : ∀ (n : Nat) (l : List Value), l.length = 3 * n → l = (List.range n).flatMap fun i => (l.drop (i * 3)).take 3
  | 0, l, h => by
    rw [List.length_eq_zero_iff.1 (by omega : l.length = 0)]
    rfl
  | n + 1, l, h => by
    have ih := triples n (l.drop 3) (by rw [List.length_drop]; omega)
    rw [List.range_succ_eq_map, List.flatMap_cons, List.flatMap_map]
    have e : ((List.range n).flatMap fun i => (l.drop ((i + 1) * 3)).take 3) = (List.range n).flatMap fun i => ((l.drop 3).drop (i * 3)).take 3 := by
      congr 1
      funext i
      rw [List.drop_drop, show 3 + i * 3 = (i + 1) * 3 by omega]
    show l = (l.drop (0 * 3)).take 3 ++ ((List.range n).flatMap fun i => (l.drop ((i + 1) * 3)).take 3)
    rw [e, ← ih]
    simp
def typDatum {H : Type} (x : List UInt8 × Int × Bool) : DataW H := .agg [.lit (.string x.1), .lit (.int .i64 x.2.1), .lit (.bool x.2.2)]
set_option maxRecDepth 100000 in
theorem arr_cells {H : Type} {enc : TypeId × Value → H} {w : World} {base : Nat} {sp : Nat → Bool} {held : Bool} {fuel : Nat} {cs : List Value} {p : List MemPlace}
    (h : DataW.trod enc Tryd.prog w base sp held fuel 122 cs = some (.agg (PRec.typesTab.map typDatum), p)) : cs = PRec.typesTab.flatMap PRec.typeCells := by
  have hce : Tryd.prog.cellsOf 121 = 3 := by kernel_rfl
  have hct : Tryd.prog.cellsOf 122 = 30 := by kernel_rfl
  cases fuel with
  | zero => simp [DataW.trod] at h
  | succ fuel =>
    simp only [DataW.trod, Tryd.underlying122, hce, hct] at h
    split at h
    · rename_i hl
      obtain ⟨xs, hm, hx⟩ := Option.map_eq_some_iff.1 h
      have hxs : xs.map (·.1) = PRec.typesTab.map (typDatum (H := H)) := by
        have := congrArg Prod.fst hx
        simpa using this
      have each : ∀ i, i < 10 → (cs.drop (i * 3)).take 3 = PRec.typeCells (PRec.typesTab.getD i ([], 0, false)) := by
        intro i hi
        obtain ⟨b, hb, hf⟩ := Lib.mapM_at hm i i (by simp [hi])
        have h2 : (xs.map (·.1))[i]? = some b.1 := by simp [hb]
        rw [hxs, List.getElem?_map] at h2
        have h3 : PRec.typesTab[i]? = some (PRec.typesTab.getD i ([], 0, false)) := by
          rw [List.getD_eq_getElem?_getD, List.getElem?_eq_getElem (show i < PRec.typesTab.length from hi)]
          rfl
        rw [h3] at h2
        have h4 : b.1 = typDatum (PRec.typesTab.getD i ([], 0, false)) := (Option.some.inj h2).symm
        exact elem_cells (p := b.2) (by rw [hf]; exact congrArg some (Prod.ext h4 rfl))
      have hlen : cs.length = 3 * 10 := by omega
      rw [triples 10 cs hlen]
      have : ∀ i ∈ List.range 10, (cs.drop (i * 3)).take 3 = PRec.typeCells (PRec.typesTab.getD i ([], 0, false)) := fun i hi => each i (List.mem_range.1 hi)
      rw [List.flatMap_def, List.map_congr_left this]
      rfl
    · cases h
set_option maxRecDepth 100000 in
theorem gl_of_laid03 {W : World} (h : laidMetH Tryd.prog Rows.recordChecksRow.laid W) : PRec.GL W := by
  rw [MakeChecks.laidMetH_plain _ _ _ (by kernel_rfl)] at h
  refine ⟨?_, ?_, ?_⟩
  · have h2 := h.tail.tail
    exact Lib.tabIs_of_head (k := .u64) (zs := Lib.pow10Tab) (g := 3) (t := 245) (e := 67) (n := 20) (by kernel_rfl) (by kernel_rfl) (by kernel_rfl) (by kernel_rfl) (by kernel_rfl) (by kernel_rfl) h2
  · have h3 := h.tail.tail.tail
    exact Lib.tabIs_of_head (k := .u8) (zs := PRec.digitsTab) (g := 2) (t := 206) (e := 5) (n := 16) (by kernel_rfl) (by kernel_rfl) (by kernel_rfl) (by kernel_rfl) (by kernel_rfl) (by kernel_rfl) h3
  · have h4 := h.tail.tail.tail.tail
    obtain ⟨ps, ⟨g', t', cs, fuel, p, q, hg', ht', hvar, hd, _, _⟩, _⟩ := h4
    have eg : Tryd.prog.globalNamed "kaudit/record.types" = some 0 := by kernel_rfl
    obtain rfl := Option.some.inj (eg.symm.trans hg')
    have et : (Tryd.prog.globals[0]?).map (·.type) = some 122 := by kernel_rfl
    obtain rfl := Option.some.inj (et.symm.trans ht')
    have hc := arr_cells (p := p) hd
    rw [hvar]
    congr 1
    apply Array.ext'
    rw [hc]
    rfl
end Go.Proofs.YtjnlmmjadlidlaaDoor.R3
end
