/-
  Plain laws of chapter 3: the pairs (value.Check, Quote, Format and the reference's).
-/
import Derived.Test.YtjnlmmjadlidlaaDoorPRecx12
import Derived.Test.YtjnlmmjadlidlaaDoorPRecx5
import Derived.OpenShut
namespace Go.Proofs.YtjnlmmjadlidlaaDoor.Pure3
open Go.RowKit Go.Proofs.YtjnlmmjadlidlaaDoor.PRec Go.Proofs.YtjnlmmjadlidlaaDoorW.PrintWords

theorem w64 {x : Int} (h0 : -9223372036854775808 ≤ x) (h1 : x ≤ 9223372036854775807) : wrap64 x = x := by unfold wrap64; omega
theorem wsucc {i n : Nat} (h : i < n) (hn : n ≤ 9223372036854775807) : wrap64 ((i : Int) + 1) = ((i + 1 : Nat) : Int) := by rw [w64 (by omega) (by omega)]; omega

theorem and_yes {x y : Bool} (h : x = true) : y = (x && y) := by rw [h, Bool.true_and]
theorem and_no {x y : Bool} (h : x = false) : false = (x && y) := by rw [h, Bool.false_and]
/-- The places from i on, so many of them. -/
def allFrom (p : Nat → Bool) : Nat → Nat → Bool
  | 0, _ => true
  | d + 1, i => p i && allFrom p d (i + 1)
theorem allFrom_iff (p : Nat → Bool) : ∀ d i, allFrom p d i = true ↔ ∀ j, i ≤ j → j < i + d → p j = true := by
  intro d
  induction d with
  | zero => intro i; simp only [allFrom]; exact ⟨fun _ j h1 h2 => absurd h2 (by omega), fun _ => trivial⟩
  | succ d ih =>
    intro i
    simp only [allFrom, Bool.and_eq_true, ih]
    constructor
    · rintro ⟨h1, h2⟩ j hj1 hj2
      by_cases e : j = i
      · rw [e]; exact h1
      · exact h2 j (by omega) (by omega)
    · exact fun h => ⟨h i (by omega) (by omega), fun j h1 h2 => h j (by omega) (by omega)⟩

/-- May this byte stand in a name; at its beginning? -/
def lowB (b : Int) : Bool := decide (97 ≤ b) && decide (b ≤ 122)
def midB (b : Int) : Bool := lowB b || ((decide (48 ≤ b) && decide (b ≤ 57)) || decide (b = 95))
def isName (s : ByteArray) : Bool := decide (1 ≤ s.size) && (decide (s.size ≤ 16) && (lowB (bt s 0) && allFrom (fun i => midB (bt s i)) s.size 0))

theorem proper_l0 (s : ByteArray) (hs : s.size ≤ 1000) (d : Nat) : ∀ (k i : Nat), i + d = s.size → d < k → value_proper.l0 k s s.size i = some (allFrom (fun i => midB (bt s i)) d i) := by
  induction d with
  | zero =>
    intro k i hi hk
    obtain ⟨k, rfl⟩ : ∃ m, k = m + 1 := ⟨k - 1, by omega⟩
    simp only [value_proper.l0]
    rw [if_neg (by omega)]
    rfl
  | succ d ih =>
    intro k i hi hk
    obtain ⟨k, rfl⟩ : ∃ m, k = m + 1 := ⟨k - 1, by omega⟩
    simp only [value_proper.l0, allFrom]
    rw [if_pos (by omega), if_pos (by omega), if_pos (by omega), wsucc (n := s.size) (by omega) (by omega), ih k (i + 1) (by omega) (by omega)]
    generalize allFrom (fun i => midB (bt s i)) d (i + 1) = q
    generalize bt s i = b
    unfold midB lowB
    repeat' split
    all_goals (congr 1; first | omega | (refine and_yes ?_; simp <;> omega) | (refine and_no ?_; simp <;> omega))

theorem empty_toList : (⟨#[]⟩ : ByteArray).toList = [] := by simp [ByteArray.toList_eq]
theorem nil_iff (s : ByteArray) : s.toList = [] ↔ s.size = 0 := by
  rw [ByteArray.toList_eq]
  have e : s.size = s.data.toList.length := by rw [Array.length_toList]; rfl
  rw [e, List.length_eq_zero_iff]

theorem proper_ev (s : ByteArray) : Ev (fun k => value_proper.f k s) (isName s) := by
  refine ⟨s.size + 3, fun k hk => ?_⟩
  obtain ⟨k, rfl⟩ : ∃ m, k = m + 1 := ⟨k - 1, by omega⟩
  show value_proper.f (k + 1) s = some (isName s)
  unfold value_proper.f isName
  by_cases h0 : s.toList = []
  · rw [if_pos h0]
    simp only [value_proper.j0]
    rw [show decide (1 ≤ s.size) = false from decide_eq_false (by have := (nil_iff s).1 h0; omega)]
    rfl
  · have hp : ¬ s.size = 0 := fun h => h0 ((nil_iff s).2 h)
    rw [if_neg h0, show decide (1 ≤ s.size) = true from decide_eq_true (by omega)]
    by_cases h1 : (s.size : Int) > 16
    · rw [if_pos h1, show decide (s.size ≤ 16) = false from decide_eq_false (by omega)]
      simp [value_proper.j0]
    · rw [if_neg h1, if_pos (by omega), show decide (s.size ≤ 16) = true from decide_eq_true (by omega)]
      have hl := proper_l0 s (by omega) s.size k 0 (by omega) (by omega)
      have hl : value_proper.l0 k s s.size 0 = _ := hl
      unfold lowB
      by_cases h2 : bt s 0 < 97
      · rw [if_pos h2, show decide (97 ≤ bt s 0) = false from decide_eq_false (by omega)]
        simp [value_proper.j0]
      · rw [if_neg h2, show decide (97 ≤ bt s 0) = true from decide_eq_true (by omega)]
        simp only [value_proper.j0]
        by_cases h3 : bt s 0 > 122
        · rw [if_pos (decide_eq_true h3), show decide (bt s 0 ≤ 122) = false from decide_eq_false (by omega)]
          simp
        · rw [if_neg (by rw [decide_eq_false h3]; exact Bool.false_ne_true), hl, show decide (bt s 0 ≤ 122) = true from decide_eq_true (by omega)]
          simp

def okAt (s : ByteArray) (i : Nat) : Bool := if i = 0 then lowB (bt s 0) else midB (bt s i)

theorem refname_l0 (s : ByteArray) (hs : s.size ≤ 1000) (d : Nat) : ∀ (k i : Nat), i + d = s.size → d < k → kauditref02_name.l0 k s i = some (allFrom (okAt s) d i) := by
  induction d with
  | zero =>
    intro k i hi hk
    obtain ⟨k, rfl⟩ : ∃ m, k = m + 1 := ⟨k - 1, by omega⟩
    simp only [kauditref02_name.l0]
    rw [if_neg (by omega)]
    rfl
  | succ d ih =>
    intro k i hi hk
    obtain ⟨k, rfl⟩ : ∃ m, k = m + 1 := ⟨k - 1, by omega⟩
    simp only [kauditref02_name.l0, allFrom]
    rw [if_pos (by omega), if_pos (by omega), wsucc (n := s.size) (by omega) (by omega), ih k (i + 1) (by omega) (by omega)]
    generalize allFrom (okAt s) d (i + 1) = q
    have hok : okAt s i = if i = 0 then lowB (bt s i) else midB (bt s i) := by
      unfold okAt
      by_cases h : i = 0
      · subst h; rfl
      · rw [if_neg h, if_neg h]
    rw [hok]
    generalize bt s i = b
    unfold midB lowB
    by_cases hz : i = 0
    · subst hz
      repeat' split
      all_goals (congr 1; first | omega | (refine and_yes ?_; simp <;> omega) | (refine and_no ?_; simp <;> omega))
    · rw [if_neg hz]
      have hz' : (i : Int) > 0 := by omega
      simp only [if_pos hz']
      repeat' split
      all_goals (congr 1; first | omega | (refine and_yes ?_; simp <;> omega) | (refine and_no ?_; simp <;> omega))

theorem okAll_eq (s : ByteArray) (h : 1 ≤ s.size) : allFrom (okAt s) s.size 0 = (lowB (bt s 0) && allFrom (fun i => midB (bt s i)) s.size 0) := by
  rw [Bool.eq_iff_iff, Bool.and_eq_true, allFrom_iff, allFrom_iff]
  constructor
  · intro H
    have h0 := H 0 (by omega) (by omega)
    have h0 : lowB (bt s 0) = true := h0
    refine ⟨h0, fun j h1 h2 => ?_⟩
    by_cases e : j = 0
    · subst e; show midB (bt s 0) = true; unfold midB; rw [h0]; rfl
    · have := H j h1 h2
      unfold okAt at this
      rw [if_neg e] at this
      exact this
  · rintro ⟨h0, H⟩ j h1 h2
    unfold okAt
    by_cases e : j = 0
    · rw [if_pos e]; exact h0
    · rw [if_neg e]; exact H j h1 h2

theorem refname_ev (s : ByteArray) : Ev (fun k => kauditref02_name.f k s) (isName s) := by
  refine ⟨s.size + 3, fun k hk => ?_⟩
  obtain ⟨k, rfl⟩ : ∃ m, k = m + 1 := ⟨k - 1, by omega⟩
  show kauditref02_name.f (k + 1) s = some (isName s)
  unfold kauditref02_name.f isName
  by_cases h1 : (s.size : Int) < 1
  · rw [if_pos h1]
    simp only [kauditref02_name.j0]
    rw [show decide (1 ≤ s.size) = false from decide_eq_false (by omega)]
    rfl
  · rw [if_neg h1]
    simp only [kauditref02_name.j0]
    by_cases h2 : (s.size : Int) > 16
    · rw [if_pos (decide_eq_true h2), show decide (s.size ≤ 16) = false from decide_eq_false (by omega)]
      simp
    · rw [if_neg (by rw [decide_eq_false h2]; exact Bool.false_ne_true), show decide (1 ≤ s.size) = true from decide_eq_true (by omega), show decide (s.size ≤ 16) = true from decide_eq_true (by omega)]
      rw [← okAll_eq s (by omega), Bool.true_and, Bool.true_and]
      exact refname_l0 s (by omega) s.size k 0 (by omega) (by omega)

/-- What Check of a pair returns. -/
def badB (kind num : Int) (text : ByteArray) : Bool := !((decide (kind = 1) || decide (kind = 2) || decide (kind = 3)) && (decide (num = 0) || decide (kind = 1)) && (decide (text.toList = []) || decide (kind = 2)))
def checkV (name : ByteArray) (kind num : Int) (text : ByteArray) : Int :=
  if isName name then (if badB kind num text = true then 23 else if (text.size : Int) > 640 then 20 else 0) else 22

theorem vj1 (k : Nat) (x : Bool) (name : ByteArray) (kind num : Int) (text : ByteArray) : value_Check.j1 (k + 1) x name kind num text = some (if x = true then 23 else if (text.size : Int) > 640 then 20 else 0) := by
  simp only [value_Check.j1]
  repeat' split
  all_goals rfl
theorem vj0 (k : Nat) (x : Bool) (name : ByteArray) (kind num : Int) (text : ByteArray) (h : x = !(decide (kind = 1) || decide (kind = 2) || decide (kind = 3))) : value_Check.j0 (k + 2) x name kind num text = some (if badB kind num text = true then 23 else if (text.size : Int) > 640 then 20 else 0) := by
  subst h
  simp only [value_Check.j0, vj1]
  by_cases h1 : kind = 1
  · subst h1
    by_cases h3 : num = 0 <;> by_cases h2 : text.toList = [] <;> simp [badB, h2, h3]
  · by_cases h4 : kind = 2
    · subst h4
      by_cases h3 : num = 0 <;> by_cases h2 : text.toList = [] <;> simp [badB, h2, h3]
    · by_cases h5 : kind = 3
      · subst h5
        by_cases h3 : num = 0 <;> by_cases h2 : text.toList = [] <;> simp [badB, h2, h3]
      · by_cases h3 : num = 0 <;> by_cases h2 : text.toList = [] <;> simp [badB, h1, h2, h3, h4, h5]

theorem vcheck_ev (name : ByteArray) (kind num : Int) (text : ByteArray) : Ev (fun k => value_Check.f k name kind num text) (checkV name kind num text) := by
  unfold value_Check.f checkV
  refine Ev.bind (proper_ev name) ?_
  by_cases h : isName name = true
  · rw [if_pos h]
    refine Ev.congr (fun k => if_pos h) ?_
    refine ⟨2, fun k hk => ?_⟩
    obtain ⟨k, rfl⟩ : ∃ m, k = m + 2 := ⟨k - 2, by omega⟩
    have h0 := fun (x : Bool) (hx : x = !(decide (kind = 1) || decide (kind = 2) || decide (kind = 3))) => vj0 k x name kind num text hx
    by_cases h1 : kind = 1
    · simp only [if_pos h1]; exact h0 _ (by simp [h1])
    · simp only [if_neg h1]
      by_cases h2 : kind = 2
      · simp only [if_pos h2]; exact h0 _ (by simp [h2])
      · simp only [if_neg h2]; exact h0 _ (by simp [h1, h2, bne, Bool.beq_eq_decide_eq])
  · rw [if_neg h]
    exact Ev.congr (fun k => if_neg h) (Ev.now _)

theorem rj0 (k : Nat) (x : Bool) (name : ByteArray) (kind num : Int) (text : ByteArray) : kauditref02_Check.j0 (k + 1) x name kind num text = some (if x = true then 23 else if (text.size : Int) > 640 then 20 else 0) := by
  simp only [kauditref02_Check.j0]
  repeat' split
  all_goals rfl
theorem rcheck_ev (name : ByteArray) (kind num : Int) (text : ByteArray) : Ev (fun k => kauditref02_Check.f k name kind num text) (checkV name kind num text) := by
  unfold kauditref02_Check.f checkV
  refine Ev.bind (refname_ev name) ?_
  by_cases h : isName name = true
  · rw [if_pos h]
    refine Ev.congr (fun k => if_pos h) ?_
    refine ⟨1, fun k hk => ?_⟩
    obtain ⟨k, rfl⟩ : ∃ m, k = m + 1 := ⟨k - 1, by omega⟩
    simp only [rj0]
    by_cases h1 : kind = 1
    · subst h1
      by_cases h3 : num = 0 <;> by_cases h2 : text.toList = [] <;> simp [badB, h2, h3]
    · by_cases h4 : kind = 2
      · subst h4
        by_cases h3 : num = 0 <;> by_cases h2 : text.toList = [] <;> simp [badB, h2, h3]
      · by_cases h5 : kind = 3
        · subst h5
          by_cases h3 : num = 0 <;> by_cases h2 : text.toList = [] <;> simp [badB, h2, h3]
        · have hr : kind < 1 ∨ kind > 3 := by omega
          have hb : badB kind num text = true := by simp [badB, h1, h4, h5]
          rw [if_pos hb]
          rcases hr with hr | hr
          · rw [if_pos hr]; rfl
          · rw [if_neg (by omega), if_pos hr]; rfl
  · rw [if_neg h]
    exact Ev.congr (fun k => if_neg h) (Ev.now _)
end Go.Proofs.YtjnlmmjadlidlaaDoor.Pure3
