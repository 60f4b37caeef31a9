/-
  What came in, by its type, opened as a list of records: slices of whatever elements, records of whatever fields.
-/
import Derived.Deep.Slices
import Derived.Test.YtjnlmmjadlidlaaDoorWMore
import Derived.Test.YtjnlmmjadlidlaaDoorWShare
import Derived.Test.YtjnlmmjadlidlaaDoorWFoot
namespace Go.Proofs.YtjnlmmjadlidlaaDoor.Open
open Go.ChangeShapes Go.WideShapes Go.RowKit Go.Proofs.YtjnlmmjadlidlaaDoorW.PrintWords

section
variable {H : Type} (enc : TypeId × Value → H) (P : Program) (w : World) (base : Nat) (spare : Nat → Bool) (held : Bool)

/-- What lies in these cells reads as a value of this kind. -/
def Opens {α : Type} (t : TypeId) (d : Kd α) (Q : α → Prop) : Prop :=
  ∀ (n : Nat) (cs : List Value) (x : DataW H × List MemPlace), DataW.trod enc P w base spare held n t cs = some x → ∃ y, d.K w y cs ∧ Q y
/-- A record's fields, from an offset on. -/
def Chain {α : Type} (off : Nat) (fs : List Field) (d : Kd α) (Q : α → Prop) : Prop :=
  ∀ (n : Nat) (cs : List Value), cs.length = off + d.sz → (∀ f ∈ fs, ∃ x, DataW.trod enc P w base spare held n f.type ((cs.drop f.offset).take (P.cellsOf f.type)) = some x) → ∃ y, d.K w y (cs.drop off) ∧ Q y
end

section
variable {H : Type} {enc : TypeId × Value → H} {P : Program} {w : World} {base : Nat} {spare : Nat → Bool} {held : Bool}

theorem opens_int {t : TypeId} {k : IntKind} (ht : P.underlying t = some (.int k)) : Opens enc P w base spare held t (Kd.int k) (fun n => (Lit.int k n).wf = true) := by
  intro n cs x h
  obtain ⟨m, rfl, _, hw⟩ := DataW.trod_int ht h
  exact ⟨m, rfl, hw⟩
theorem opens_bool {t : TypeId} (ht : P.underlying t = some .bool) : Opens enc P w base spare held t Kd.bool (fun _ => True) := by
  intro n cs x h
  obtain ⟨b, rfl, _⟩ := DataW.trod_bool ht h
  exact ⟨b, rfl, trivial⟩
theorem opens_string {t : TypeId} (ht : P.underlying t = some .string) : Opens enc P w base spare held t Kd.string (fun s => s.size ≤ maxLen) := by
  intro n cs x h
  obtain ⟨s, rfl, _, hw⟩ := DataW.trod_string ht h
  exact ⟨s, rfl, hw⟩

/-- A slice's cells, as the address, the length and the room that they hold. -/
theorem opens_cells {α : Type} {t e : TypeId} {d : Kd α} {Q : α → Prop} (ht : P.underlying t = some (.slice e)) (hc : P.cellsOf e = d.sz) (hE : Opens enc P w base spare held e d Q) (n : Nat) (cs : List Value) (x : DataW H × List MemPlace)
    (h : DataW.trod enc P w base spare held n t cs = some x) : ∃ (A : Option Addr) (c : Nat) (ys : List α), cs = [.slice A ys.length c] ∧ ys.length ≤ c ∧ c ≤ maxLen ∧ d.C w A ys.length ys ∧ ∀ y ∈ ys, Q y := by
  rcases Go.Deep.open_slice ht h with ⟨rfl, _⟩ | ⟨a, len, cap, m, k, D, Pl, rfl, hb, hl, hm, hmm, _, hx⟩
  · exact ⟨none, 0, [], rfl, Nat.le_refl _, Nat.zero_le _, ⟨rfl, Nat.zero_le _, fun h => absurd h (Nat.lt_irrefl _)⟩, fun _ h => by cases h⟩
  · have hlm : len ≤ m := by rw [hmm]; split <;> omega
    have each : ∀ i, i < len → ∃ y : α, (∃ cs', w.cells? base (a.add (i * d.sz)) d.sz = some cs' ∧ d.K w y cs') ∧ Q y := by
      intro i hi
      obtain ⟨cs', h1, h2⟩ := hx i (by omega)
      obtain ⟨y, hK, hQ⟩ := hE _ _ _ h2
      rw [hc] at h1
      exact ⟨y, ⟨cs', h1, hK⟩, hQ⟩
    have hml : maxLen = 9223372036854775807 := by decide
    have build : ∀ n, n ≤ len → ∃ ys : List α, ys.length = n ∧ ∀ i y, ys[i]? = some y → (∃ cs', w.cells? base (a.add (i * d.sz)) d.sz = some cs' ∧ d.K w y cs') ∧ Q y := by
      intro n
      induction n with
      | zero => intro _; exact ⟨[], rfl, fun i y hy => by simp at hy⟩
      | succ n ih =>
        intro hn
        obtain ⟨ys, hlen, hys⟩ := ih (by omega)
        obtain ⟨y, hy⟩ := each n (by omega)
        refine ⟨ys ++ [y], by simp [hlen], fun i z hz => ?_⟩
        by_cases hi : i < ys.length
        · rw [List.getElem?_append_left hi] at hz; exact hys i z hz
        · rw [List.getElem?_append_right (by omega)] at hz
          have hin : i - ys.length = 0 := by
            have := (List.getElem?_eq_some_iff.1 hz).1
            simp at this
            omega
          rw [hin] at hz
          have hzy : y = z := by simpa using hz
          have hi' : i = n := by omega
          subst hzy
          subst hi'
          exact hy
    obtain ⟨ys, hlen, hys⟩ := build len (Nat.le_refl _)
    subst hlen
    refine ⟨some a, cap, ys, rfl, hl, hm, ⟨rfl, by omega, fun _ => ⟨a, rfl, fun j p hj => ?_⟩⟩, fun y hy => ?_⟩
    · obtain ⟨⟨cs', h1, hK⟩, _⟩ := hys j p hj
      obtain ⟨_, hcl, hcell⟩ := World.cells?_some h1
      refine ⟨cs', hcl, hK, fun i u hu => ?_⟩
      have hi : i < cs'.length := (List.getElem?_eq_some_iff.1 hu).1
      have := hcell i (by omega)
      rw [Go.Deep.add_add] at this
      rw [this, hu]
    · obtain ⟨i, hi⟩ := List.getElem?_of_mem hy
      exact (hys i y hi).2

theorem opens_slice {α : Type} {t e : TypeId} {d : Kd α} {Q : α → Prop} (ht : P.underlying t = some (.slice e)) (hc : P.cellsOf e = d.sz) (hE : Opens enc P w base spare held e d Q) :
    Opens enc P w base spare held t (Kd.slice e d) (fun ys => ys.length ≤ maxLen ∧ ∀ y ∈ ys, Q y) := by
  intro n cs x h
  obtain ⟨A, c, ys, rfl, hl, hm, hC, hQ⟩ := opens_cells ht hc hE n cs x h
  exact ⟨ys, ⟨A, c, rfl, hl, hC⟩, Nat.le_trans hl hm, hQ⟩

/-- An argument that is a slice. -/
theorem opens_arg {α : Type} {t e : TypeId} {d : Kd α} {Q : α → Prop} {a : Option Addr} {len cap : Nat} {D : DataW H} {ps : List MemPlace} (ht : P.underlying t = some (.slice e)) (hc : P.cellsOf e = d.sz) (hE : Opens enc P w base spare held e d Q)
    (h : DataW.Trod enc P w base spare held t (.slice a len cap) D ps) : ∃ ys : List α, len = ys.length ∧ ys.length ≤ cap ∧ cap ≤ maxLen ∧ d.C w a ys.length ys ∧ ∀ y ∈ ys, Q y := by
  obtain ⟨n, h⟩ := h
  obtain ⟨A, c, ys, hcs, hl, hm, hC, hQ⟩ := opens_cells ht hc hE n _ _ h
  simp [Value.cells] at hcs
  obtain ⟨rfl, rfl, rfl⟩ := hcs
  exact ⟨ys, rfl, hl, hm, hC, hQ⟩

theorem chain_one {α : Type} {off : Nat} {f : Field} {d : Kd α} {Q : α → Prop} (ho : f.offset = off) (hc : P.cellsOf f.type = d.sz) (h : Opens enc P w base spare held f.type d Q) : Chain enc P w base spare held off [f] d Q := by
  intro n cs hl hx
  obtain ⟨x, hx⟩ := hx f (List.mem_singleton.2 rfl)
  rw [ho, hc, List.take_of_length_le (by rw [List.length_drop]; omega)] at hx
  exact h _ _ _ hx
theorem chain_cons {α β : Type} {off : Nat} {f : Field} {fs : List Field} {a : Kd α} {b : Kd β} {Q : α → Prop} {R : β → Prop} (ho : f.offset = off) (hc : P.cellsOf f.type = a.sz) (h : Opens enc P w base spare held f.type a Q)
    (hr : Chain enc P w base spare held (off + a.sz) fs b R) : Chain enc P w base spare held off (f :: fs) (Kd.pair a b) (fun p => Q p.1 ∧ R p.2) := by
  intro n cs hl hx
  have hl' : cs.length = off + (a.sz + b.sz) := hl
  obtain ⟨x, hf⟩ := hx f (List.mem_cons_self ..)
  rw [ho, hc] at hf
  obtain ⟨y, hK, hQ⟩ := h _ _ _ hf
  obtain ⟨z, hKz, hR⟩ := hr n cs (by omega) (fun g hg => hx g (List.mem_cons_of_mem _ hg))
  refine ⟨(y, z), ⟨_, _, ?_, hK, hKz⟩, hQ, hR⟩
  rw [← List.drop_drop, List.take_append_drop]
theorem opens_struct {α : Type} {t : TypeId} {fs : Array Field} {d : Kd α} {Q : α → Prop} (ht : P.underlying t = some (.struct fs)) (hc : P.cellsOf t = d.sz) (h : Chain enc P w base spare held 0 fs.toList d Q) : Opens enc P w base spare held t d Q := by
  intro n cs x hx
  obtain ⟨xs, k, _, rfl, hl, hlen, hf⟩ := DataW.trod_struct ht hx
  obtain ⟨y, hK, hQ⟩ := h k cs (by omega) (fun f hf' => by
    obtain ⟨i, hi⟩ := List.getElem?_of_mem hf'
    rw [Array.getElem?_toList] at hi
    have hlt : i < xs.length := by rw [hlen]; exact (Array.getElem?_eq_some_iff.1 hi).1
    exact ⟨xs[i], by rw [hf i f hi, List.getElem?_eq_getElem hlt]⟩)
  exact ⟨y, by simpa using hK, hQ⟩
theorem opens_iso {α β : Type} {t : TypeId} {d : Kd α} {Q : α → Prop} {f : β → α} (g : α → β) (hg : ∀ y, f (g y) = y) (h : Opens enc P w base spare held t d Q) : Opens enc P w base spare held t (Kd.iso d f) (fun x => Q (f x)) := by
  intro n cs x hx
  obtain ⟨y, hK, hQ⟩ := h n cs x hx
  exact ⟨g y, show d.K w (f (g y)) cs by rw [hg]; exact hK, show Q (f (g y)) by rw [hg]; exact hQ⟩

/-- An argument that is a record. -/
theorem opens_agg {α : Type} {r : Reach} {b0 : Nat} {t : TypeId} {fs : Array Field} {v : Value} {d : Kd α} {Q : α → Prop} {D : DataW H} {ps : List MemPlace} (ht : P.underlying t = some (.struct fs)) (hv : Value.okWide P w r b0 t v)
    (hE : Opens enc P w base spare held t d Q) (h : DataW.Trod enc P w base spare held t v D ps) : ∃ (cs : Array Value) (y : α), v = .agg cs ∧ d.K w y cs.toList ∧ Q y := by
  obtain ⟨cs, rfl, _⟩ := okWide_struct ht hv
  obtain ⟨n, h⟩ := h
  obtain ⟨y, hK, hQ⟩ := hE n _ _ h
  exact ⟨cs, y, rfl, by simpa [Value.cells] using hK, hQ⟩

/-- What came in, told by its footprint: all that was there. -/
theorem V_came {α : Type} {d : Kd α} (hd : Kd.Heap d) {e b : Nat} {A : Option Addr} {c : Nat} {xs : List α} (hl : xs.length ≤ c) (h : d.C w A xs.length xs) : Kd.V d e w b (fun k => k < w.heap.size) (.slice A xs.length c) xs :=
  Kd.V_mk hl (Kd.C_F hd h)
end
end Go.Proofs.YtjnlmmjadlidlaaDoor.Open
