/-
  Plain laws of chapter 37: which databases names.Check takes; the chapter's example.
-/
import Derived.Test.YtjnlmmjadlidlaaDoorNPure1
namespace Go.Proofs.YtjnlmmjadlidlaaDoor.Pure
open Go.RowKit Go.Proofs.YtjnlmmjadlidlaaDoor.PNames Go.Proofs.YtjnlmmjadlidlaaDoorW.PrintWords

/-- May byte number i stand in a name? -/
def okAt (s : ByteArray) (i : Nat) : Bool := (decide (97 ≤ bt s i) && decide (bt s i ≤ 122)) || (decide (i ≠ 0) && (decide (bt s i = 45) || (decide (48 ≤ bt s i) && decide (bt s i ≤ 57))))
def wordAll (s : ByteArray) : Bool := (List.range s.size).all (okAt s)

theorem wordAll_true {s : ByteArray} (h : ∀ j, j < s.size → okAt s j = true) : wordAll s = true := List.all_eq_true.2 fun j hj => h j (List.mem_range.1 hj)
theorem wordAll_false {s : ByteArray} {j : Nat} (hj : j < s.size) (h : okAt s j = false) : wordAll s = false := by
  unfold wordAll
  rw [List.all_eq_false]
  exact ⟨j, List.mem_range.2 hj, by simp [h]⟩

theorem word_l0 (s : ByteArray) (hs : s.size ≤ 1000) (d : Nat) : ∀ (k i : Nat), i + d = s.size → d < k → (∀ j, j < i → okAt s j = true) → names_word.l0 k s i = some (wordAll s) := by
  induction d with
  | zero =>
    intro k i hi hk hb
    obtain ⟨k, rfl⟩ : ∃ m, k = m + 1 := ⟨k - 1, by omega⟩
    simp only [names_word.l0]
    rw [if_neg (by omega), wordAll_true (fun j hj => hb j (by omega))]
  | succ d ih =>
    intro k i hi hk hb
    obtain ⟨k, rfl⟩ : ∃ m, k = m + 1 := ⟨k - 1, by omega⟩
    have hw : wrap64 ((i : Int) + 1) = ((i + 1 : Nat) : Int) := by rw [w64 (by omega) (by omega)]; omega
    have hgo : okAt s i = true → names_word.l0 k s (wrap64 ((i : Int) + 1)) = some (wordAll s) := fun ho => by
      rw [hw]
      exact ih k (i + 1) (by omega) (by omega) (fun j hj => by by_cases e : j = i; · rw [e]; exact ho
                                                               · exact hb j (by omega))
    have hno : okAt s i = false → some false = some (wordAll s) := fun ho => by rw [wordAll_false (by omega) ho]
    simp only [names_word.l0]
    rw [if_pos (show (i : Int) < (s.size : Int) by omega), if_pos (show 0 ≤ (i : Int) by omega)]
    have rest : (if (i : Int) = 0 then (some false) else (if (bt s i) = 45 then (names_word.l0 k s (wrap64 ((i : Int) + 1))) else (if (bt s i) < 48 then (some false) else (if (bt s i) > 57 then (some false) else (names_word.l0 k s (wrap64 ((i : Int) + 1))))))) = some (wordAll s) ∨ (97 ≤ bt s i ∧ bt s i ≤ 122) := by
      by_cases hl : 97 ≤ bt s i ∧ bt s i ≤ 122
      · exact .inr hl
      · left
        by_cases h0 : (i : Int) = 0
        · rw [if_pos h0]; exact hno (by simp [okAt]; omega)
        · rw [if_neg h0]
          by_cases h1 : bt s i = 45
          · rw [if_pos h1]; exact hgo (by simp [okAt]; omega)
          · rw [if_neg h1]
            by_cases h2 : bt s i < 48
            · rw [if_pos h2]; exact hno (by simp [okAt]; omega)
            · rw [if_neg h2]
              by_cases h3 : bt s i > 57
              · rw [if_pos h3]; exact hno (by simp [okAt]; omega)
              · rw [if_neg h3]; exact hgo (by simp [okAt]; omega)
    by_cases h1 : bt s i ≥ 97
    · rw [if_pos h1]
      by_cases h2 : bt s i ≤ 122
      · rw [if_pos h2]; exact hgo (by simp [okAt]; omega)
      · rw [if_neg h2]; exact rest.resolve_right (fun h => h2 h.2)
    · rw [if_neg h1]; exact rest.resolve_right (fun h => h1 h.1)

/-- A name: 1 to 16 bytes, each as it must be. -/
def isWord (s : ByteArray) : Bool := decide (1 ≤ s.size) && (decide (s.size ≤ 16) && wordAll s)

theorem word_ev (s : ByteArray) : Ev (fun k => names_word.f k s) (isWord s) := by
  refine ⟨s.size + 3, fun k hk => ?_⟩
  obtain ⟨m, rfl⟩ : ∃ m, k = m + 1 := ⟨k - 1, by omega⟩
  show names_word.f (m + 1) s = some (isWord s)
  unfold names_word.f isWord
  by_cases h1 : (s.size : Int) < 1
  · rw [if_pos h1]
    simp only [names_word.j0]
    rw [show decide (1 ≤ s.size) = false from decide_eq_false (by omega)]
    rfl
  · rw [if_neg h1]
    simp only [names_word.j0]
    by_cases h2 : (s.size : Int) > 16
    · rw [if_pos (decide_eq_true h2), show decide (s.size ≤ 16) = false from decide_eq_false (by omega)]
      simp
    · rw [if_neg (by rw [decide_eq_false h2]; exact Bool.false_ne_true), show decide (1 ≤ s.size) = true from decide_eq_true (by omega), show decide (s.size ≤ 16) = true from decide_eq_true (by omega)]
      exact word_l0 s (by omega) s.size m 0 (by omega) (by omega) (fun j hj => by omega)

def validB (x : S47) : Bool := decide (0 ≤ x.f0) && (decide (x.f0 ≤ 1099511627776) && ((decide (x.f1 = 1) || decide (x.f1 = 2)) && (decide (0 ≤ x.f2) && (decide (x.f2 < 4294967295) && (decide (x.f3.toList = []) || isWord x.f3)))))
def lessB (a b : S47) : Bool := if a.f0 = b.f0 then (if a.f1 = b.f1 then decide (a.f2 < b.f2) else decide (a.f1 < b.f1)) else decide (a.f0 < b.f0)

theorem valid_ev (x : S47) : Ev (fun k => names_valid.f k x.f0 x.f1 x.f2 x.f3) (validB x) := by
  obtain ⟨K, hK⟩ := word_ev x.f3
  refine ⟨K, fun k hk => ?_⟩
  have hw : names_word.f k x.f3 = some (isWord x.f3) := hK k hk
  show names_valid.f k x.f0 x.f1 x.f2 x.f3 = some (validB x)
  unfold names_valid.f validB
  have tail : (if x.f2 ≥ 0 then (if x.f2 < 4294967295 then (if x.f3.toList = ([] : List UInt8) then (some true) else ((names_word.f k x.f3).bind fun t => (some t))) else (some false)) else (some false)) =
      some (decide (0 ≤ x.f2) && (decide (x.f2 < 4294967295) && (decide (x.f3.toList = []) || isWord x.f3))) := by
    by_cases h1 : x.f2 ≥ 0
    · rw [if_pos h1, decide_eq_true (show 0 ≤ x.f2 from h1)]
      by_cases h2 : x.f2 < 4294967295
      · rw [if_pos h2, decide_eq_true h2]
        by_cases h3 : x.f3.toList = []
        · rw [if_pos h3, decide_eq_true h3]; rfl
        · rw [if_neg h3, decide_eq_false h3, hw]; simp
      · rw [if_neg h2, decide_eq_false h2]; rfl
    · rw [if_neg h1, decide_eq_false (show ¬ 0 ≤ x.f2 from h1)]; rfl
  by_cases h1 : x.f0 ≥ 0
  · rw [if_pos h1, decide_eq_true (show 0 ≤ x.f0 from h1)]
    by_cases h2 : x.f0 ≤ 1099511627776
    · rw [if_pos h2, decide_eq_true h2]
      by_cases h3 : x.f1 = 1
      · rw [if_pos h3, decide_eq_true h3]; simpa using tail
      · rw [if_neg h3, decide_eq_false h3]
        by_cases h4 : x.f1 = 2
        · rw [if_pos h4, decide_eq_true h4]; simpa using tail
        · rw [if_neg h4, decide_eq_false h4]; rfl
    · rw [if_neg h2, decide_eq_false h2]; rfl
  · rw [if_neg h1, decide_eq_false (show ¬ 0 ≤ x.f0 from h1)]; rfl

theorem less_f (a b : S47) : names_less.f a.f0 a.f1 a.f2 a.f3 b.f0 b.f1 b.f2 b.f3 = some (lessB a b) := by
  unfold names_less.f lessB
  by_cases h1 : a.f0 = b.f0
  · rw [if_pos h1, if_pos h1]
    by_cases h2 : a.f1 = b.f1
    · rw [if_pos h2, if_pos h2]
    · rw [if_neg h2, if_neg h2]
  · rw [if_neg h1, if_neg h1]

/-- What Check says of a list behind a naming. -/
def checkL : Option S47 → List S47 → Int
  | _, [] => 0
  | none, x :: r => if validB x then checkL (some x) r else 371
  | some a, x :: r => if validB x then (if lessB a x then checkL (some x) r else 372) else 371
def checkS (l : List S47) : Int := if l.length > 64 then 370 else checkL none l

theorem rd_at (pre : List S47) (x : S47) (r : List S47) : rd_T47 (pre ++ x :: r) (pre.length : Int) = x := by
  unfold rd_T47
  simp [List.getD_eq_getElem?_getD]
theorem rd_last (pre : List S47) (a : S47) (r : List S47) : rd_T47 (pre ++ [a] ++ r) (pre.length : Int) = a := by
  unfold rd_T47
  simp [List.getD_eq_getElem?_getD]

theorem check_l0 (rest : List S47) : ∀ (pre : List S47), (pre ++ rest).length ≤ 64 →
    Ev (fun k => names_Check.l0 k (pre ++ rest) (pre ++ rest) ((pre ++ rest).length : Int) (pre.length : Int)) (checkL pre.getLast? rest) := by
  induction rest with
  | nil =>
    intro pre hl
    refine Ev.step (f := fun _ => some 0) (fun k => ?_) (by simpa [checkL] using Ev.now 0)
    simp only [names_Check.l0]
    rw [if_neg (by simp)]
  | cons x r ih =>
    intro pre hl
    have hlen : (pre ++ x :: r).length = pre.length + (r.length + 1) := by simp
    have hgo := ih (pre ++ [x]) (by simpa using hl)
    rw [List.append_assoc, List.singleton_append] at hgo
    rw [show ((pre ++ [x]).length : Int) = (pre.length : Int) + 1 from by simp] at hgo
    have hgl : (pre ++ [x]).getLast? = some x := by simp
    rw [hgl] at hgo
    have hw1 : wrap64 ((pre.length : Int) + 1) = (pre.length : Int) + 1 := w64 (by omega) (by omega)
    refine Ev.step (f := fun k => (names_valid.f k x.f0 x.f1 x.f2 x.f3).bind fun t => if t = true then (if (pre.length : Int) > 0 then (if 0 ≤ (wrap64 ((pre.length : Int) - 1)) then (if (wrap64 ((pre.length : Int) - 1)) < ((pre ++ x :: r).length : Int) then
        ((names_less.f ((rd_T47 (pre ++ x :: r) (wrap64 ((pre.length : Int) - 1))).f0) ((rd_T47 (pre ++ x :: r) (wrap64 ((pre.length : Int) - 1))).f1) ((rd_T47 (pre ++ x :: r) (wrap64 ((pre.length : Int) - 1))).f2) ((rd_T47 (pre ++ x :: r) (wrap64 ((pre.length : Int) - 1))).f3) x.f0 x.f1 x.f2 x.f3).bind fun t2 => (if t2 = true then (names_Check.l0 k (pre ++ x :: r) (pre ++ x :: r) ((pre ++ x :: r).length : Int) ((pre.length : Int) + 1)) else (some 372))) else none) else none)
        else (names_Check.l0 k (pre ++ x :: r) (pre ++ x :: r) ((pre ++ x :: r).length : Int) ((pre.length : Int) + 1))) else some 371) (fun k => ?_) ?_
    · simp only [names_Check.l0]
      rw [if_pos (by omega), if_pos (by omega), if_pos (by omega), rd_at, hw1]
    · refine Ev.bind (valid_ev x) ?_
      cases hv : validB x with
      | false =>
        have hc : checkL pre.getLast? (x :: r) = 371 := by cases pre.getLast? <;> simp [checkL, hv]
        rw [hc]
        exact Ev.congr (fun k => by rw [if_neg Bool.false_ne_true]) (Ev.now 371)
      | true =>
        rcases List.eq_nil_or_concat pre with rfl | ⟨p, a, rfl⟩
        · rw [show checkL ([] : List S47).getLast? (x :: r) = checkL (some x) r from by simp [checkL, hv]]
          refine Ev.congr (f := fun k => names_Check.l0 k ([] ++ x :: r) ([] ++ x :: r) (([] ++ x :: r).length : Int) ((([] : List S47).length : Int) + 1)) (fun k => ?_) hgo
          rw [if_pos rfl, if_neg (by simp)]
        · rw [List.concat_eq_append] at hgo hw1 hlen hl ⊢
          have hp : ((p ++ [a]).length : Int) = (p.length : Int) + 1 := by simp
          have hw2 : wrap64 (((p ++ [a]).length : Int) - 1) = (p.length : Int) := by
            have : (p ++ [a]).length = p.length + 1 := by simp
            rw [w64 (by omega) (by omega)]; omega
          rw [show (p ++ [a]).getLast? = some a by simp, show checkL (some a) (x :: r) = if lessB a x then checkL (some x) r else 372 from by simp [checkL, hv]]
          have hbody : ∀ k, (if true = true then (if ((p ++ [a]).length : Int) > 0 then (if 0 ≤ (wrap64 (((p ++ [a]).length : Int) - 1)) then (if (wrap64 (((p ++ [a]).length : Int) - 1)) < ((p ++ [a] ++ x :: r).length : Int) then
              ((names_less.f ((rd_T47 (p ++ [a] ++ x :: r) (wrap64 (((p ++ [a]).length : Int) - 1))).f0) ((rd_T47 (p ++ [a] ++ x :: r) (wrap64 (((p ++ [a]).length : Int) - 1))).f1) ((rd_T47 (p ++ [a] ++ x :: r) (wrap64 (((p ++ [a]).length : Int) - 1))).f2) ((rd_T47 (p ++ [a] ++ x :: r) (wrap64 (((p ++ [a]).length : Int) - 1))).f3) x.f0 x.f1 x.f2 x.f3).bind fun t2 => (if t2 = true then (names_Check.l0 k (p ++ [a] ++ x :: r) (p ++ [a] ++ x :: r) ((p ++ [a] ++ x :: r).length : Int) (((p ++ [a]).length : Int) + 1)) else (some 372))) else none) else none)
              else (names_Check.l0 k (p ++ [a] ++ x :: r) (p ++ [a] ++ x :: r) ((p ++ [a] ++ x :: r).length : Int) (((p ++ [a]).length : Int) + 1))) else some 371) =
              if lessB a x = true then (names_Check.l0 k (p ++ [a] ++ x :: r) (p ++ [a] ++ x :: r) ((p ++ [a] ++ x :: r).length : Int) (((p ++ [a]).length : Int) + 1)) else some 372 := fun k => by
            rw [if_pos rfl, if_pos (by omega), hw2, if_pos (by omega), if_pos (by simp; omega), rd_last, less_f]
            rfl
          refine Ev.congr hbody ?_
          cases hless : lessB a x with
          | true => exact Ev.congr (fun k => if_pos rfl) (by simpa using hgo)
          | false => exact Ev.congr (fun k => if_neg Bool.false_ne_true) (by simpa using Ev.now (372 : Int))

theorem check_ev (l : List S47) : Ev (fun k => names_Check.f k l) (checkS l) := by
  unfold names_Check.f checkS
  by_cases h : l.length > 64
  · rw [if_pos h]
    exact Ev.congr (fun k => if_pos (by omega)) (Ev.now 370)
  · rw [if_neg h]
    exact Ev.congr (fun k => if_neg (by omega)) (by simpa using check_l0 l [] (by simpa using (by omega : l.length ≤ 64)))

def uidS : ByteArray := ⟨#[117, 105, 100]⟩
def exS : List S47 := [⟨0, 1, 7, ⟨#[97, 110, 110]⟩⟩, ⟨5, 1, 7, ⟨#[98, 111, 98]⟩⟩]
theorem isUser_uid : isUser uidS := by simp [isUser, uidS, ByteArray.toList_eq]

theorem interp_uid (nm : Int → Int → ByteArray) (n : Int) (h : n ≠ 4294967295) (h2 : ¬ (nm 1 n).toList = []) : interp nm uidS 1 n ⟨#[]⟩ = nm 1 n := by
  unfold interp special
  rw [if_pos rfl, if_pos isUser_uid, if_neg h, or1, if_neg h2]

theorem begun_ev : Ev (fun k => kauditlaw37_begun.f k) true := by
  have w1 : isWord ⟨#[97, 110, 110]⟩ = true := by decide
  have w2 : isWord ⟨#[98, 111, 98]⟩ = true := by decide
  have v1 : validB ⟨0, 1, 7, ⟨#[97, 110, 110]⟩⟩ = true := by simp [validB, w1]
  have v2 : validB ⟨5, 1, 7, ⟨#[98, 111, 98]⟩⟩ = true := by simp [validB, w2]
  have hc : checkS exS = 0 := by simp [checkS, checkL, exS, v1, v2, lessB]
  have hn7 : I64 7 := by constructor <;> omega
  have hn2 : I64 (-2) := by constructor <;> omega
  have n4 : nmAt exS 4 1 7 = ⟨#[97, 110, 110]⟩ := rfl
  have n5 : nmAt exS 5 1 7 = ⟨#[98, 111, 98]⟩ := rfl
  have i1 : (interp (nmAt exS 4) uidS 1 7 ⟨#[]⟩).toList = [97, 110, 110] := by rw [interp_uid _ 7 (by omega) (by rw [n4]; simp [ByteArray.toList_eq]), n4]; simp [ByteArray.toList_eq]
  have i2 : (interp (nmAt exS 5) uidS 1 7 ⟨#[]⟩).toList = [98, 111, 98] := by rw [interp_uid _ 7 (by omega) (by rw [n5]; simp [ByteArray.toList_eq]), n5]; simp [ByteArray.toList_eq]
  have i3 : (interp (nmAt [] 5) ⟨#[101, 120, 105, 116]⟩ 1 (-2) ⟨#[]⟩).toList = [45, 69, 78, 79, 69, 78, 84] := by
    have he : errName (- -2) = [69, 78, 79, 69, 78, 84] := by decide
    have hx : exitS (-2) = ⟨#[45]⟩ ++ ⟨([69, 78, 79, 69, 78, 84] : List UInt8).toArray⟩ := by unfold exitS; rw [if_pos (by omega), he, if_neg (by decide)]
    have hs : (exitS (-2)).toList = [45, 69, 78, 79, 69, 78, 84] := by rw [hx, ByteArray.toList_eq]; simp [ByteArray.data_append]
    unfold interp special late
    rw [if_pos rfl, if_neg (by simp [isUser, ByteArray.toList_eq]), if_neg (by simp [isGroup, ByteArray.toList_eq]), if_neg (by simp [ByteArray.toList_eq]), if_pos (by simp [ByteArray.toList_eq]), or1, if_neg (by rw [hs]; decide), hs]
  refine Ev.congr (f := fun k => (names_Check.f k exS).bind fun t169 => (if t169 = 0 then ((names_Interpret.f k exS 4 uidS 1 7 ⟨#[]⟩).bind fun t170 => (if t170.toList = ([97, 110, 110] : List UInt8) then ((names_Interpret.f k exS 5 uidS 1 7 ⟨#[]⟩).bind fun t171 => (if t171.toList = ([98, 111, 98] : List UInt8) then
    ((names_Interpret.f k [] 5 ⟨#[101, 120, 105, 116]⟩ 1 (-2) ⟨#[]⟩).bind fun t176 => (some (t176.toList == ([45, 69, 78, 79, 69, 78, 84] : List UInt8)))) else (some false))) else (some false))) else (some false))) (fun k => rfl) ?_
  refine Ev.bind (check_ev exS) ?_
  refine Ev.congr (fun k => if_pos hc) ?_
  refine Ev.bind (interpret_ev exS 4 uidS 1 7 ⟨#[]⟩ hn7) ?_
  refine Ev.congr (fun k => if_pos i1) ?_
  refine Ev.bind (interpret_ev exS 5 uidS 1 7 ⟨#[]⟩ hn7) ?_
  refine Ev.congr (fun k => if_pos i2) ?_
  refine Ev.bind (interpret_ev [] 5 ⟨#[101, 120, 105, 116]⟩ 1 (-2) ⟨#[]⟩ hn2) ?_
  rw [i3]
  exact Ev.now true

end Go.Proofs.YtjnlmmjadlidlaaDoor.Pure
