/-
  Plain laws of chapter 37: the reference's check of a database says what names.Check says.
-/
import Derived.Test.YtjnlmmjadlidlaaDoorNPure2
import Derived.Test.YtjnlmmjadlidlaaDoorPNamesx8
namespace Go.Proofs.YtjnlmmjadlidlaaDoor.Pure
open Go.RowKit Go.Proofs.YtjnlmmjadlidlaaDoor.PNames Go.Proofs.YtjnlmmjadlidlaaDoorW.PrintWords

theorem refword_l0 (s : ByteArray) (hs : s.size ≤ 9223372036854775807) (d : Nat) : ∀ (k i : Nat), i + d = s.size → d < k → (∀ j, j < i → okAt s j = true) → kauditref37_word.l0 k s i = some (wordAll s && decide (s.size ≤ 16)) := by
  induction d with
  | zero =>
    intro k i hi hk hb
    obtain ⟨k, rfl⟩ : ∃ m, k = m + 1 := ⟨k - 1, by omega⟩
    simp only [kauditref37_word.l0]
    rw [if_neg (by omega), wordAll_true (fun j hj => hb j (by omega))]
    congr 1
    by_cases h : s.size ≤ 16
    · rw [decide_eq_true h, decide_eq_true (by omega)]; rfl
    · rw [decide_eq_false h, decide_eq_false (by omega)]; rfl
  | succ d ih =>
    intro k i hi hk hb
    obtain ⟨k, rfl⟩ : ∃ m, k = m + 1 := ⟨k - 1, by omega⟩
    have hw : wrap64 ((i : Int) + 1) = ((i + 1 : Nat) : Int) := by rw [w64 (by omega) (by omega)]; omega
    have hgo : okAt s i = true → kauditref37_word.l0 k s (wrap64 ((i : Int) + 1)) = some (wordAll s && decide (s.size ≤ 16)) := fun ho => by
      rw [hw]
      exact ih k (i + 1) (by omega) (by omega) (fun j hj => by by_cases e : j = i; · rw [e]; exact ho
                                                               · exact hb j (by omega))
    have hno : okAt s i = false → some false = some (wordAll s && decide (s.size ≤ 16)) := fun ho => by rw [wordAll_false (by omega) ho, Bool.false_and]
    simp only [kauditref37_word.l0]
    rw [if_pos (show (i : Int) < (s.size : Int) by omega), if_pos (show 0 ≤ (i : Int) by omega)]
    have rest : (97 ≤ bt s i ∧ bt s i ≤ 122) ∨ (if (i : Int) = 0 then (some false) else (if (bt s i) < 48 then (if (bt s i) = 45 then (kauditref37_word.l0 k s (wrap64 ((i : Int) + 1))) else (some false)) else (if (bt s i) > 57 then (if (bt s i) = 45 then (kauditref37_word.l0 k s (wrap64 ((i : Int) + 1))) else (some false)) else (kauditref37_word.l0 k s (wrap64 ((i : Int) + 1)))))) = some (wordAll s && decide (s.size ≤ 16)) := by
      by_cases hl : 97 ≤ bt s i ∧ bt s i ≤ 122
      · exact .inl hl
      · right
        by_cases h0 : (i : Int) = 0
        · rw [if_pos h0]; exact hno (by simp [okAt]; omega)
        · rw [if_neg h0]
          by_cases h2 : bt s i < 48
          · rw [if_pos h2]
            by_cases h1 : bt s i = 45
            · rw [if_pos h1]; exact hgo (by simp [okAt]; omega)
            · rw [if_neg h1]; exact hno (by simp [okAt]; omega)
          · rw [if_neg h2]
            by_cases h3 : bt s i > 57
            · rw [if_pos h3, if_neg (by omega)]; exact hno (by simp [okAt]; omega)
            · rw [if_neg h3]; exact hgo (by simp [okAt]; omega)
    by_cases h1 : bt s i < 97
    · rw [if_pos h1]; exact rest.resolve_left (by omega)
    · rw [if_neg h1]
      by_cases h2 : bt s i > 122
      · rw [if_pos h2]; exact rest.resolve_left (by omega)
      · rw [if_neg h2]; exact hgo (by simp [okAt]; omega)

theorem refword_ev (s : ByteArray) (hs : s.size ≤ 9223372036854775807) : Ev (fun k => kauditref37_word.f k s) (wordAll s && decide (s.size ≤ 16)) :=
  ⟨s.size + 1, fun k hk => refword_l0 s hs s.size k 0 (by omega) (by omega) (fun j hj => by omega)⟩

theorem word_or (s : ByteArray) : (wordAll s && decide (s.size ≤ 16)) = (decide (s.toList = []) || isWord s) := by
  unfold isWord
  by_cases h : s.size = 0
  · have h1 : s.toList = [] := by
      rw [ByteArray.toList_eq]
      have : s.data.toList.length = 0 := by rw [Array.length_toList]; exact h
      exact List.length_eq_zero_iff.1 this
    rw [h1, wordAll_true (fun j hj => by omega)]
    simp [h]
  · have h1 : ¬ s.toList = [] := by
      rw [ByteArray.toList_eq]
      intro e
      have : s.data.toList.length = 0 := by rw [e]; rfl
      rw [Array.length_toList] at this
      exact h this
    rw [decide_eq_false h1, decide_eq_true (show 1 ≤ s.size by omega), Bool.false_or, Bool.true_and, Bool.and_comm]

theorem cmp_less (a b : S47) : (cmp47 a.f0 a.f1 a.f2 b.f0 b.f1 b.f2 ≥ 0) ↔ lessB a b = false := by
  unfold cmp47 lessB
  repeat' split
  all_goals simp
  all_goals omega

abbrev refL := kauditref37_NamesCheck.l0

theorem ref_j1 (pre : List S47) (x : S47) (r : List S47) (flag : Bool) (hl : (pre ++ x :: r).length ≤ 64)
    (hgo : Ev (fun k => kauditref37_NamesCheck.l0 k (pre ++ x :: r) (pre ++ x :: r) ((pre ++ x :: r).length : Int) ((pre.length : Int) + 1)) (checkL (some x) r)) :
    Ev (fun k => kauditref37_NamesCheck.j1 k (pre ++ x :: r) (pre.length : Int) (pre ++ x :: r) ((pre ++ x :: r).length : Int) (pre.length : Int) flag x.f0 x.f1 x.f2 x.f3)
      (if flag then 371 else match pre.getLast? with | none => checkL (some x) r | some a => if lessB a x then checkL (some x) r else 372) := by
  have hlen : (pre ++ x :: r).length = pre.length + (r.length + 1) := by simp
  have hw1 : wrap64 ((pre.length : Int) + 1) = (pre.length : Int) + 1 := w64 (by omega) (by omega)
  cases flag with
  | true =>
    refine Ev.step (f := fun _ => some 371) (fun k => ?_) (Ev.now 371)
    simp only [kauditref37_NamesCheck.j1]
    rw [if_pos trivial]
  | false =>
    rcases List.eq_nil_or_concat pre with rfl | ⟨p, a, rfl⟩
    · refine Ev.step (f := fun k => kauditref37_NamesCheck.l0 k ([] ++ x :: r) ([] ++ x :: r) (([] ++ x :: r).length : Int) ((([] : List S47).length : Int) + 1)) (fun k => ?_) hgo
      simp only [kauditref37_NamesCheck.j1]
      rw [if_neg Bool.false_ne_true, if_neg (by simp), hw1]
    · rw [List.concat_eq_append] at hgo hw1 hlen hl ⊢
      have hw2 : wrap64 (((p ++ [a]).length : Int) - 1) = (p.length : Int) := by
        have : (p ++ [a]).length = p.length + 1 := by simp
        rw [w64 (by omega) (by omega)]; omega
      have hp : ((p ++ [a]).length : Int) = (p.length : Int) + 1 := by simp
      rw [if_neg Bool.false_ne_true, show (p ++ [a]).getLast? = some a by simp]
      refine Ev.step (f := fun k => if cmp47 a.f0 a.f1 a.f2 x.f0 x.f1 x.f2 ≥ 0 then some 372 else kauditref37_NamesCheck.l0 k (p ++ [a] ++ x :: r) (p ++ [a] ++ x :: r) ((p ++ [a] ++ x :: r).length : Int) (((p ++ [a]).length : Int) + 1)) (fun k => ?_) ?_
      · simp only [kauditref37_NamesCheck.j1]
        rw [if_neg Bool.false_ne_true, if_pos (by omega), hw2, if_pos (by omega), if_pos (by simp; omega), rd_last, hw1]
        rfl
      · show Ev _ (if lessB a x = true then checkL (some x) r else 372)
        cases hless : lessB a x with
        | true => exact Ev.congr (fun k => if_neg (fun h => by rw [(cmp_less a x).1 h] at hless; cases hless)) hgo
        | false => exact Ev.congr (fun k => if_pos ((cmp_less a x).2 hless)) (Ev.now 372)

theorem ref_l0 (rest : List S47) : ∀ (pre : List S47), (pre ++ rest).length ≤ 64 → (∀ x ∈ rest, x.f3.size ≤ 9223372036854775807) →
    Ev (fun k => kauditref37_NamesCheck.l0 k (pre ++ rest) (pre ++ rest) ((pre ++ rest).length : Int) (pre.length : Int)) (checkL pre.getLast? rest) := by
  induction rest with
  | nil =>
    intro pre hl _
    refine Ev.step (f := fun _ => some 0) (fun k => ?_) (by simpa [checkL] using Ev.now 0)
    simp only [kauditref37_NamesCheck.l0]
    rw [if_neg (by simp)]
  | cons x r ih =>
    intro pre hl hs
    have hlen : (pre ++ x :: r).length = pre.length + (r.length + 1) := by simp
    have hgo := ih (pre ++ [x]) (by simpa using hl) (fun y hy => hs y (List.mem_cons_of_mem _ hy))
    rw [List.append_assoc, List.singleton_append, show ((pre ++ [x]).length : Int) = (pre.length : Int) + 1 from by simp, show (pre ++ [x]).getLast? = some x by simp] at hgo
    have hj := fun flag => ref_j1 pre x r flag hl hgo
    have htrue : validB x = true → (match pre.getLast? with | none => checkL (some x) r | some a => if lessB a x then checkL (some x) r else 372) = checkL pre.getLast? (x :: r) := fun hv => by
      cases pre.getLast? <;> simp [checkL, hv]
    have hfalse : validB x = false → checkL pre.getLast? (x :: r) = 371 := fun hv => by cases pre.getLast? <;> simp [checkL, hv]
    have hbad : validB x = false → Ev (fun k => kauditref37_NamesCheck.j1 k (pre ++ x :: r) (pre.length : Int) (pre ++ x :: r) ((pre ++ x :: r).length : Int) (pre.length : Int) true x.f0 x.f1 x.f2 x.f3) (checkL pre.getLast? (x :: r)) := fun hv => by
      rw [hfalse hv]; exact hj true
    have hword : validB x = (wordAll x.f3 && decide (x.f3.size ≤ 16)) → Ev (fun k => (kauditref37_word.f k x.f3).bind fun t => kauditref37_NamesCheck.j1 k (pre ++ x :: r) (pre.length : Int) (pre ++ x :: r) ((pre ++ x :: r).length : Int) (pre.length : Int) (!t) x.f0 x.f1 x.f2 x.f3) (checkL pre.getLast? (x :: r)) := fun hv => by
      refine Ev.bind (refword_ev x.f3 (hs x (List.mem_cons_self ..))) ?_
      rw [← hv]
      cases hb : validB x with
      | true => have := hj false; rw [if_neg Bool.false_ne_true, htrue hb] at this; exact this
      | false => exact hbad hb
    have key : ∀ g : Nat → Option Int, (∀ k, kauditref37_NamesCheck.l0 (k + 1) (pre ++ x :: r) (pre ++ x :: r) ((pre ++ x :: r).length : Int) (pre.length : Int) = g k) → Ev g (checkL pre.getLast? (x :: r)) →
        Ev (fun k => kauditref37_NamesCheck.l0 k (pre ++ x :: r) (pre ++ x :: r) ((pre ++ x :: r).length : Int) (pre.length : Int)) (checkL pre.getLast? (x :: r)) := fun g e h => Ev.step e h
    have hin : (pre.length : Int) < ((pre ++ x :: r).length : Int) := by omega
    have h00 : (0 : Int) ≤ (pre.length : Int) := by omega
    by_cases a1 : x.f0 < 0
    · refine key _ (fun k => ?_) (hbad (by unfold validB; rw [decide_eq_false (show ¬ 0 ≤ x.f0 by omega)]; rfl))
      simp only [kauditref37_NamesCheck.l0]
      rw [if_pos hin, if_pos h00, if_pos hin, rd_at, if_pos a1]
    · by_cases a2 : x.f0 > 1099511627776
      · refine key _ (fun k => ?_) (hbad (by unfold validB; rw [decide_eq_false (show ¬ x.f0 ≤ 1099511627776 by omega)]; simp))
        simp only [kauditref37_NamesCheck.l0]
        rw [if_pos hin, if_pos h00, if_pos hin, rd_at, if_neg a1, if_pos a2]
      · have v0 : validB x = ((decide (x.f1 = 1) || decide (x.f1 = 2)) && (decide (0 ≤ x.f2) && (decide (x.f2 < 4294967295) && (decide (x.f3.toList = []) || isWord x.f3)))) := by
          unfold validB; rw [decide_eq_true (show 0 ≤ x.f0 by omega), decide_eq_true (show x.f0 ≤ 1099511627776 by omega)]; rfl
        by_cases b : x.f1 = 1 ∨ x.f1 = 2
        · have v1 : validB x = (decide (0 ≤ x.f2) && (decide (x.f2 < 4294967295) && (decide (x.f3.toList = []) || isWord x.f3))) := by
            rw [v0]; rcases b with b | b <;> rw [b] <;> simp
          have pick : ∀ k, kauditref37_NamesCheck.l0 (k + 1) (pre ++ x :: r) (pre ++ x :: r) ((pre ++ x :: r).length : Int) (pre.length : Int) =
              if x.f2 < 0 then kauditref37_NamesCheck.j1 k (pre ++ x :: r) (pre.length : Int) (pre ++ x :: r) ((pre ++ x :: r).length : Int) (pre.length : Int) true x.f0 x.f1 x.f2 x.f3 else
              if x.f2 ≥ 4294967295 then kauditref37_NamesCheck.j1 k (pre ++ x :: r) (pre.length : Int) (pre ++ x :: r) ((pre ++ x :: r).length : Int) (pre.length : Int) true x.f0 x.f1 x.f2 x.f3 else
              (kauditref37_word.f k x.f3).bind fun t => kauditref37_NamesCheck.j1 k (pre ++ x :: r) (pre.length : Int) (pre ++ x :: r) ((pre ++ x :: r).length : Int) (pre.length : Int) (!t) x.f0 x.f1 x.f2 x.f3 := fun k => by
            simp only [kauditref37_NamesCheck.l0]
            rw [if_pos hin, if_pos h00, if_pos hin, rd_at, if_neg a1, if_neg a2]
            by_cases b1 : x.f1 = 1
            · rw [if_pos b1]
            · rw [if_neg b1, if_pos (b.resolve_left b1)]
          by_cases c1 : x.f2 < 0
          · exact key _ (fun k => (pick k).trans (if_pos c1)) (hbad (by rw [v1, decide_eq_false (show ¬ 0 ≤ x.f2 by omega)]; rfl))
          · by_cases c2 : x.f2 ≥ 4294967295
            · exact key _ (fun k => ((pick k).trans (if_neg c1)).trans (if_pos c2)) (hbad (by rw [v1, decide_eq_false (show ¬ x.f2 < 4294967295 by omega)]; simp))
            · exact key _ (fun k => ((pick k).trans (if_neg c1)).trans (if_neg c2)) (hword (by rw [v1, word_or, decide_eq_true (show 0 ≤ x.f2 by omega), decide_eq_true (show x.f2 < 4294967295 by omega)]; rfl))
        · have b1 : ¬ x.f1 = 1 := fun h => b (.inl h)
          have b2 : ¬ x.f1 = 2 := fun h => b (.inr h)
          refine key _ (fun k => ?_) (hbad (by rw [v0, decide_eq_false b1, decide_eq_false b2]; rfl))
          simp only [kauditref37_NamesCheck.l0]
          rw [if_pos hin, if_pos h00, if_pos hin, rd_at, if_neg a1, if_neg a2, if_neg b1, if_neg b2]

theorem refcheck_ev (l : List S47) (hs : ∀ x ∈ l, x.f3.size ≤ 9223372036854775807) : Ev (fun k => kauditref37_NamesCheck.f k l) (checkS l) := by
  unfold kauditref37_NamesCheck.f checkS
  by_cases h : l.length > 64
  · rw [if_pos h]
    exact Ev.congr (fun k => if_pos (by omega)) (Ev.now 370)
  · rw [if_neg h]
    exact Ev.congr (fun k => if_neg (by omega)) (by simpa using ref_l0 l [] (by simpa using (by omega : l.length ≤ 64)) hs)

end Go.Proofs.YtjnlmmjadlidlaaDoor.Pure
