/-
  Plain laws of chapter 3: records (Check and Format, on both sides) answer the same.
-/
import Derived.Test.YtjnlmmjadlidlaaDoorRPure2
import Derived.Test.YtjnlmmjadlidlaaDoorPRecx13
namespace Go.Proofs.YtjnlmmjadlidlaaDoor.Pure3
open Go.RowKit Go.Proofs.YtjnlmmjadlidlaaDoor.PRec Go.Proofs.YtjnlmmjadlidlaaDoorW.PrintWords

/-! ### the table of types -/
def kindsL : List S126 := [(⟨(⟨#[85, 83, 69, 82]⟩ : ByteArray), 1005, true⟩ : S126), (⟨(⟨#[68, 65, 69, 77, 79, 78]⟩ : ByteArray), 1200, true⟩ : S126), (⟨(⟨#[83, 89, 83, 67, 65, 76, 76]⟩ : ByteArray), 1300, false⟩ : S126), (⟨(⟨#[80, 65, 84, 72]⟩ : ByteArray), 1302, false⟩ : S126), (⟨(⟨#[67, 79, 78, 70, 73, 71]⟩ : ByteArray), 1305, true⟩ : S126), (⟨(⟨#[83, 79, 67, 75, 65, 68, 68, 82]⟩ : ByteArray), 1306, false⟩ : S126), (⟨(⟨#[67, 87, 68]⟩ : ByteArray), 1307, false⟩ : S126), (⟨(⟨#[69, 88, 69, 67, 86, 69]⟩ : ByteArray), 1309, false⟩ : S126), (⟨(⟨#[69, 79, 69]⟩ : ByteArray), 1320, false⟩ : S126), (⟨(⟨#[76, 79, 83, 83]⟩ : ByteArray), 1331, true⟩ : S126)]
theorem kinds_f : kauditref03_kinds.f = some kindsL := rfl
theorem kinds_at (i : Nat) (hi : i < 10) : rd_T126 kindsL (i : Int) = ⟨tName i, tNum i, tOne i⟩ := by
  match i, hi with
  | 0, _ => rfl
  | 1, _ => rfl
  | 2, _ => rfl
  | 3, _ => rfl
  | 4, _ => rfl
  | 5, _ => rfl
  | 6, _ => rfl
  | 7, _ => rfl
  | 8, _ => rfl
  | 9, _ => rfl
  | i + 10, hi => omega
def findRes (o : Option (List UInt8 × Int × Bool)) : ByteArray × Int × Bool × Bool := match o with | some x => (⟨x.1.toArray⟩, x.2.1, x.2.2, true) | none => (⟨#[]⟩, 0, false, false)
theorem find_l0 (t : Int) (d : Nat) : ∀ (k i : Nat), i + d = 10 → d < k → kauditref03_find.l0 k t kindsL i = some (findRes (findT t i)) := by
  induction d with
  | zero =>
    intro k i hi hk
    obtain ⟨k, rfl⟩ : ∃ m, k = m + 1 := ⟨k - 1, by omega⟩
    obtain rfl : i = 10 := by omega
    simp only [kauditref03_find.l0]
    rw [if_neg (by decide)]
    rfl
  | succ d ih =>
    intro k i hi hk
    obtain ⟨k, rfl⟩ : ∃ m, k = m + 1 := ⟨k - 1, by omega⟩
    have hl : (kindsL.length : Int) = 10 := rfl
    simp only [kauditref03_find.l0]
    rw [if_pos (by omega), if_pos (by omega), kinds_at i (by omega)]
    by_cases h : tNum i = t
    · rw [if_pos h, findT_hit (by omega) h]
      rfl
    · rw [if_neg h, findT_miss (by omega) h, wsucc (n := 10) (by omega) (by omega)]
      exact ih k (i + 1) (by omega) (by omega)
theorem find_ev (t : Int) : Ev (fun k => kauditref03_find.f k t) (findRes (findT t 0)) := by
  refine ⟨11, fun k hk => ?_⟩
  show kauditref03_find.f k t = _
  unfold kauditref03_find.f
  rw [kinds_f]
  exact find_l0 t 10 k 0 (by omega) (by omega)
theorem find_name (t : Int) : (findRes (findT t 0)).1 = typeName t := by
  unfold typeName findRes
  cases findT t 0 <;> rfl
theorem find_one (t : Int) : (findRes (findT t 0)).2.2.1 = typeOne t := by
  unfold typeOne findRes
  cases findT t 0 <;> rfl
theorem refName_ev (t : Int) : Ev (fun k => kauditref03_Name.f k t) (typeName t) := by
  unfold kauditref03_Name.f
  exact Ev.bind (find_ev t) (by rw [find_name]; exact Ev.now _)
theorem name_none (t : Int) : (typeName t).toList = [] ↔ (findRes (findT t 0)).2.2.2 = false := by
  unfold typeName findRes
  cases h : findT t 0 with
  | none => simp [ByteArray.toList_eq]
  | some x =>
    have hm := List.mem_of_find?_eq_some h
    have hall : ∀ x ∈ typesTab.drop 0, x.1 ≠ [] := by decide
    have := hall x hm
    simp [ByteArray.toList_eq, this]

/-! ### Check -/
def sameAt (ps : List S34) (i j : Nat) : Bool := decide ((rd_T34 ps j).f0.toList = (rd_T34 ps i).f0.toList)
def chk (x : S34) : Int := checkV x.f0 x.f1 x.f2 x.f3
def pairsFrom (ps : List S34) : Nat → Nat → Int
  | 0, _ => 0
  | d + 1, i => if chk (rd_T34 ps i) = 0 then (if allFrom (fun j => !sameAt ps i j) i 0 = true then pairsFrom ps d (i + 1) else 33) else chk (rd_T34 ps i)
def checkR (t time serial : Int) (ps : List S34) : Int :=
  if (typeName t).toList = [] then 30 else if time < 0 ∨ time > 1099511627776 ∨ serial < 0 ∨ serial > 1073741824 then 31 else if (ps.length : Int) > 24 then 32 else pairsFrom ps ps.length 0

theorem rd_take {ps : List S34} {i j : Nat} (h : j < i) : rd_T34 (ps.take i) (j : Int) = rd_T34 ps (j : Int) := by
  unfold rd_T34
  rw [List.getD_eq_getElem?_getD, List.getD_eq_getElem?_getD, Int.toNat_natCast, List.getElem?_take, if_pos h]

section
variable {ps : List S34} {t time serial : Int}
theorem chk_l1 (hl : ps.length ≤ 1000) (i : Nat) (hi : i < ps.length) (r' : Int) (h : Ev (fun k => record_Check.l0 k ps (ps.length : Int) ((i + 1 : Nat) : Int) t time serial ps) r') (d : Nat) : ∀ j : Nat, j + d = i →
    Ev (fun k => record_Check.l1 k ps (ps.length : Int) (i : Int) (ps.take i) (i : Int) (j : Int) t time serial ps (rd_T34 ps i).f0 (rd_T34 ps i).f1 (rd_T34 ps i).f2 (rd_T34 ps i).f3) (if allFrom (fun j => !sameAt ps i j) d j = true then r' else 33) := by
  induction d with
  | zero =>
    intro j hj
    refine Ev.step (f := fun k => record_Check.l0 k ps (ps.length : Int) ((i + 1 : Nat) : Int) t time serial ps) (fun k => ?_) (by simpa [allFrom] using h)
    simp only [record_Check.l1]
    rw [if_neg (by omega), wsucc (n := ps.length) (by omega) (by omega)]
  | succ d ih =>
    intro j hj
    have hlen : ((ps.take i).length : Int) = (i : Int) := by rw [List.length_take]; omega
    refine Ev.step (f := fun k => if (rd_T34 ps j).f0.toList = (rd_T34 ps i).f0.toList then some 33 else record_Check.l1 k ps (ps.length : Int) (i : Int) (ps.take i) (i : Int) ((j + 1 : Nat) : Int) t time serial ps (rd_T34 ps i).f0 (rd_T34 ps i).f1 (rd_T34 ps i).f2 (rd_T34 ps i).f3) (fun k => ?_) ?_
    · simp only [record_Check.l1]
      rw [if_pos (by omega), if_pos (by omega), if_pos (by omega), rd_take (by omega), wsucc (n := ps.length) (by omega) (by omega)]
    · simp only [allFrom]
      by_cases hs : (rd_T34 ps j).f0.toList = (rd_T34 ps i).f0.toList
      · have e : sameAt ps i j = true := decide_eq_true hs
        refine Ev.congr (fun k => if_pos hs) ?_
        simp only [e, Bool.not_true, Bool.false_and]
        exact Ev.now 33
      · have e : sameAt ps i j = false := decide_eq_false hs
        refine Ev.congr (fun k => if_neg hs) ?_
        simp only [e, Bool.not_false, Bool.true_and]
        exact ih (j + 1) (by omega)
theorem chk_l0 (hl : ps.length ≤ 1000) (d : Nat) : ∀ i : Nat, i + d = ps.length → Ev (fun k => record_Check.l0 k ps (ps.length : Int) (i : Int) t time serial ps) (pairsFrom ps d i) := by
  induction d with
  | zero =>
    intro i hi
    refine Ev.step (f := fun _ => some 0) (fun k => ?_) (Ev.now 0)
    simp only [record_Check.l0]
    rw [if_neg (by omega)]
  | succ d ih =>
    intro i hi
    have hlen : (((ps.take i).length : Nat) : Int) = (i : Int) := by rw [List.length_take]; omega
    refine Ev.step (f := fun k => (value_Check.f k (rd_T34 ps i).f0 (rd_T34 ps i).f1 (rd_T34 ps i).f2 (rd_T34 ps i).f3).bind fun t107 => if t107 = 0 then record_Check.l1 k ps (ps.length : Int) (i : Int) (ps.take i) (i : Int) ((0 : Nat) : Int) t time serial ps (rd_T34 ps i).f0 (rd_T34 ps i).f1 (rd_T34 ps i).f2 (rd_T34 ps i).f3 else some t107) (fun k => ?_) ?_
    · simp only [record_Check.l0]
      rw [if_pos (by omega), if_pos (by omega), if_pos (by omega), if_pos (by omega)]
      simp only [Option.bind_some, Int.toNat_natCast, hlen]
      rfl
    · simp only [pairsFrom]
      refine Ev.bind (vcheck_ev _ _ _ _) ?_
      show Ev (fun k => if chk (rd_T34 ps i) = 0 then _ else some (chk (rd_T34 ps i))) _
      by_cases hc : chk (rd_T34 ps i) = 0
      · rw [if_pos hc]
        exact Ev.congr (fun k => if_pos hc) (chk_l1 hl i (by omega) _ (ih (i + 1) (by omega)) i 0 (by omega))
      · rw [if_neg hc]
        exact Ev.congr (fun k => if_neg hc) (Ev.now _)
theorem rchk_l1 (hl : ps.length ≤ 1000) (i : Nat) (hi : i < ps.length) (r' : Int) (h : Ev (fun k => kauditref03_Check.l0 k ((i + 1 : Nat) : Int) t time serial ps) r') (d : Nat) : ∀ j : Nat, j + d = i →
    Ev (fun k => kauditref03_Check.l1 k (i : Int) (j : Int) t time serial ps) (if allFrom (fun j => !sameAt ps i j) d j = true then r' else 33) := by
  induction d with
  | zero =>
    intro j hj
    refine Ev.step (f := fun k => kauditref03_Check.l0 k ((i + 1 : Nat) : Int) t time serial ps) (fun k => ?_) (by simpa [allFrom] using h)
    simp only [kauditref03_Check.l1]
    rw [if_neg (by omega), wsucc (n := ps.length) (by omega) (by omega)]
  | succ d ih =>
    intro j hj
    refine Ev.step (f := fun k => if (rd_T34 ps j).f0.toList = (rd_T34 ps i).f0.toList then some 33 else kauditref03_Check.l1 k (i : Int) ((j + 1 : Nat) : Int) t time serial ps) (fun k => ?_) ?_
    · simp only [kauditref03_Check.l1]
      rw [if_pos (by omega), if_pos (by omega), if_pos (by omega), if_pos (by omega), if_pos (by omega), wsucc (n := ps.length) (by omega) (by omega)]
    · simp only [allFrom]
      by_cases hs : (rd_T34 ps j).f0.toList = (rd_T34 ps i).f0.toList
      · have e : sameAt ps i j = true := decide_eq_true hs
        refine Ev.congr (fun k => if_pos hs) ?_
        simp only [e, Bool.not_true, Bool.false_and]
        exact Ev.now 33
      · have e : sameAt ps i j = false := decide_eq_false hs
        refine Ev.congr (fun k => if_neg hs) ?_
        simp only [e, Bool.not_false, Bool.true_and]
        exact ih (j + 1) (by omega)
theorem rchk_l0 (hl : ps.length ≤ 1000) (d : Nat) : ∀ i : Nat, i + d = ps.length → Ev (fun k => kauditref03_Check.l0 k (i : Int) t time serial ps) (pairsFrom ps d i) := by
  induction d with
  | zero =>
    intro i hi
    refine Ev.step (f := fun _ => some 0) (fun k => ?_) (Ev.now 0)
    simp only [kauditref03_Check.l0]
    rw [if_neg (by omega)]
  | succ d ih =>
    intro i hi
    refine Ev.step (f := fun k => (kauditref02_Check.f k (rd_T34 ps i).f0 (rd_T34 ps i).f1 (rd_T34 ps i).f2 (rd_T34 ps i).f3).bind fun t107 => if t107 = 0 then kauditref03_Check.l1 k (i : Int) ((0 : Nat) : Int) t time serial ps else some t107) (fun k => ?_) ?_
    · simp only [kauditref03_Check.l0]
      rw [if_pos (by omega), if_pos (by omega)]
      rfl
    · simp only [pairsFrom]
      refine Ev.bind (rcheck_ev _ _ _ _) ?_
      show Ev (fun k => if chk (rd_T34 ps i) = 0 then _ else some (chk (rd_T34 ps i))) _
      by_cases hc : chk (rd_T34 ps i) = 0
      · rw [if_pos hc]
        exact Ev.congr (fun k => if_pos hc) (rchk_l1 hl i (by omega) _ (ih (i + 1) (by omega)) i 0 (by omega))
      · rw [if_neg hc]
        exact Ev.congr (fun k => if_neg hc) (Ev.now _)
theorem chk_j0 (b : Bool) : Ev (fun k => record_Check.j0 k b t time serial ps) (if b = true then 31 else if (ps.length : Int) > 24 then 32 else pairsFrom ps ps.length 0) := by
  cases b with
  | true =>
    refine Ev.step (f := fun _ => some 31) (fun k => ?_) (Ev.now 31)
    simp only [record_Check.j0]
    rw [if_pos trivial]
  | false =>
    rw [if_neg Bool.false_ne_true]
    by_cases h : (ps.length : Int) > 24
    · rw [if_pos h]
      refine Ev.step (f := fun _ => some 32) (fun k => ?_) (Ev.now 32)
      simp only [record_Check.j0]
      rw [if_neg Bool.false_ne_true, if_pos h]
    · rw [if_neg h]
      refine Ev.step (f := fun k => record_Check.l0 k ps (ps.length : Int) ((0 : Nat) : Int) t time serial ps) (fun k => ?_) (chk_l0 (by omega) ps.length 0 (by omega))
      simp only [record_Check.j0]
      rw [if_neg Bool.false_ne_true, if_neg h]
      rfl
theorem rchk_j0 (b : Bool) : Ev (fun k => kauditref03_Check.j0 k b t time serial ps) (if b = true then 31 else if (ps.length : Int) > 24 then 32 else pairsFrom ps ps.length 0) := by
  cases b with
  | true =>
    refine Ev.step (f := fun _ => some 31) (fun k => ?_) (Ev.now 31)
    simp only [kauditref03_Check.j0]
    rw [if_pos trivial]
  | false =>
    rw [if_neg Bool.false_ne_true]
    by_cases h : (ps.length : Int) > 24
    · rw [if_pos h]
      refine Ev.step (f := fun _ => some 32) (fun k => ?_) (Ev.now 32)
      simp only [kauditref03_Check.j0]
      rw [if_neg Bool.false_ne_true, if_pos h]
    · rw [if_neg h]
      refine Ev.step (f := fun k => kauditref03_Check.l0 k ((0 : Nat) : Int) t time serial ps) (fun k => ?_) (rchk_l0 (by omega) ps.length 0 (by omega))
      simp only [kauditref03_Check.j0]
      rw [if_neg Bool.false_ne_true, if_neg h]
      rfl
/-- The two stamps: four tests in a row. -/
theorem stamps {J : Nat → Bool → Option Int} {R : Bool → Int} (hJ : ∀ b, Ev (fun k => J k b) (R b)) (hR : R true = 31) :
    Ev (fun k => if time < 0 then J k true else if time > 1099511627776 then J k true else if serial < 0 then J k true else J k (decide (serial > 1073741824))) (if time < 0 ∨ time > 1099511627776 ∨ serial < 0 ∨ serial > 1073741824 then 31 else R false) := by
  by_cases h1 : time < 0
  · rw [if_pos (.inl h1)]
    exact Ev.congr (fun k => if_pos h1) (by rw [← hR]; exact hJ true)
  · by_cases h2 : time > 1099511627776
    · rw [if_pos (.inr (.inl h2))]
      exact Ev.congr (fun k => by rw [if_neg h1, if_pos h2]) (by rw [← hR]; exact hJ true)
    · by_cases h3 : serial < 0
      · rw [if_pos (.inr (.inr (.inl h3)))]
        exact Ev.congr (fun k => by rw [if_neg h1, if_neg h2, if_pos h3]) (by rw [← hR]; exact hJ true)
      · by_cases h4 : serial > 1073741824
        · rw [if_pos (.inr (.inr (.inr h4)))]
          exact Ev.congr (fun k => by rw [if_neg h1, if_neg h2, if_neg h3, decide_eq_true h4]) (by rw [← hR]; exact hJ true)
        · rw [if_neg (by omega)]
          exact Ev.congr (fun k => by rw [if_neg h1, if_neg h2, if_neg h3, decide_eq_false h4]) (hJ false)
theorem check_ev (t time serial : Int) (ps : List S34) : Ev (fun k => record_Check.f k t time serial ps) (checkR t time serial ps) := by
  unfold record_Check.f checkR
  simp only [record_Name.f, Option.bind_some]
  by_cases h : (typeName t).toList = []
  · rw [if_pos h]
    exact Ev.congr (fun k => if_pos h) (Ev.now _)
  · rw [if_neg h]
    refine Ev.congr (fun k => if_neg h) ?_
    have := stamps (time := time) (serial := serial) (fun b => chk_j0 (ps := ps) (t := t) (time := time) (serial := serial) b) (if_pos rfl)
    rwa [if_neg Bool.false_ne_true] at this
theorem refcheck_ev (t time serial : Int) (ps : List S34) : Ev (fun k => kauditref03_Check.f k t time serial ps) (checkR t time serial ps) := by
  unfold kauditref03_Check.f checkR
  refine Ev.bind (find_ev t) ?_
  by_cases h : (typeName t).toList = []
  · rw [if_pos h]
    have hb := (name_none t).1 h
    exact Ev.congr (fun k => if_neg (by rw [hb]; exact Bool.false_ne_true)) (Ev.now _)
  · rw [if_neg h]
    have hb : (findRes (findT t 0)).2.2.2 = true := by
      cases hx : (findRes (findT t 0)).2.2.2 with
      | true => rfl
      | false => exact absurd ((name_none t).2 hx) h
    refine Ev.congr (fun k => if_pos hb) ?_
    have := stamps (time := time) (serial := serial) (fun b => rchk_j0 (ps := ps) (t := t) (time := time) (serial := serial) b) (if_pos rfl)
    rwa [if_neg Bool.false_ne_true] at this
end

/-! ### Format -/
theorem pairs_ok (ps : List S34) (d : Nat) : ∀ i, pairsFrom ps d i = 0 → ∀ j, i ≤ j → j < i + d → chk (rd_T34 ps (j : Int)) = 0 := by
  induction d with
  | zero => intro i _ j h1 h2; omega
  | succ d ih =>
    intro i h j h1 h2
    simp only [pairsFrom] at h
    by_cases hc : chk (rd_T34 ps i) = 0
    · rw [if_pos hc] at h
      by_cases ha : allFrom (fun j => !sameAt ps i j) i 0 = true
      · rw [if_pos ha] at h
        by_cases e : j = i
        · rw [e]; exact hc
        · exact ih (i + 1) h j (by omega) (by omega)
      · rw [if_neg ha] at h; cases h
    · rw [if_neg hc] at h; exact absurd h hc

def fmt34 (x : S34) : ByteArray := (fmtV x.f0 x.f1 x.f2 x.f3).1
def textPairs : List S34 → ByteArray → ByteArray
  | [], s => s
  | p :: r, s => textPairs r (s ++ ((⟨#[32]⟩ : ByteArray) ++ fmt34 p))
def lineHead (t time serial : Int) : ByteArray := (head1 t time ++ head2 time) ++ head3 serial
def formatR (t time serial : Int) (ps : List S34) : ByteArray × Int := if checkR t time serial ps = 0 then (textPairs ps (lineHead t time serial), 0) else (⟨#[]⟩, checkR t time serial ps)

def Nums (ps : List S34) : Prop := ∀ x ∈ ps, I64 x.f2

theorem fmt_ok {x : S34} (h : chk x = 0) : fmtV x.f0 x.f1 x.f2 x.f3 = (fmt34 x, 0) := by
  have h' : checkV x.f0 x.f1 x.f2 x.f3 = 0 := h
  unfold fmt34 fmtV
  rw [if_pos h']

theorem fmtPairs_ev : ∀ (ps : List S34) (s : ByteArray), Nums ps → (∀ x ∈ ps, chk x = 0) → s.size + ps.length * 2000 ≤ 1000000 → Ev (fun k => fmtPairs k ps s) (textPairs ps s, 0)
  | [], s, _, _, _ => Ev.now _
  | p :: r, s, hn, hc, hs => by
    have h1 := fmt_ok (hc p (List.mem_cons_self ..))
    have hz := fmtV_size p.f0 p.f1 p.f2 p.f3 (hn p (List.mem_cons_self ..))
    rw [h1] at hz
    have hz : (fmt34 p).size ≤ 1400 := hz
    rw [List.length_cons] at hs
    simp only [fmtPairs, textPairs]
    refine Ev.bind (vformat_ev p.f0 p.f1 p.f2 p.f3 (hn p (List.mem_cons_self ..))) ?_
    rw [h1]
    refine Ev.congr (fun k => by rw [if_pos rfl, if_pos (by show s.size + (1 + (fmt34 p).size) ≤ _; omega)]) (fmtPairs_ev r _ (fun x hx => hn x (List.mem_cons_of_mem _ hx)) (fun x hx => hc x (List.mem_cons_of_mem _ hx)) ?_)
    rw [ByteArray.size_append, sp_size]
    omega

theorem checkR_ok {t time serial : Int} {ps : List S34} (h : checkR t time serial ps = 0) : (0 ≤ time ∧ time ≤ 1099511627776) ∧ (0 ≤ serial ∧ serial ≤ 1073741824) ∧ ps.length ≤ 24 ∧ ∀ x ∈ ps, chk x = 0 := by
  unfold checkR at h
  by_cases h1 : (typeName t).toList = []
  · rw [if_pos h1] at h; cases h
  · rw [if_neg h1] at h
    by_cases h2 : time < 0 ∨ time > 1099511627776 ∨ serial < 0 ∨ serial > 1073741824
    · rw [if_pos h2] at h; cases h
    · rw [if_neg h2] at h
      by_cases h3 : (ps.length : Int) > 24
      · rw [if_pos h3] at h; cases h
      · rw [if_neg h3] at h
        refine ⟨by omega, by omega, by omega, fun x hx => ?_⟩
        obtain ⟨j, hj, rfl⟩ := List.getElem_of_mem hx
        have := pairs_ok ps ps.length 0 h j (by omega) (by omega)
        have e : rd_T34 ps (j : Int) = ps[j] := by
          unfold rd_T34
          rw [Int.toNat_natCast, List.getD_eq_getElem?_getD, List.getElem?_eq_getElem hj]
          rfl
        rwa [e] at this

theorem lineHead_size {t time serial : Int} (h1 : 0 ≤ time ∧ time ≤ 1099511627776) (h2 : 0 ≤ serial ∧ serial ≤ 1073741824) : (lineHead t time serial).size ≤ 200 := by
  have a := typeName_le t
  have e : Int.tdiv time 1000 = time / 1000 := Int.tdiv_eq_ediv_of_nonneg h1.1
  have b := itoa_le (Int.tdiv time 1000) (by rw [e]; omega) (by rw [e]; omega)
  have c := ms_le h1.1
  have d := itoa_le serial (by omega) (by omega)
  unfold lineHead head1 head2 head3
  rw [ByteArray.size_append, ByteArray.size_append, head_size, head3_size, ByteArray.size_append]
  have z : (⟨(Lib.repeatL [48] (3 - (msS time).size)).toArray⟩ : ByteArray).size ≤ 3 := by
    show (Lib.repeatL [48] (3 - (msS time).size)).toArray.size ≤ 3
    rw [List.size_toArray, Lib.repeatL_length]
    simp only [List.length_cons, List.length_nil]
    omega
  omega

theorem format_ev (t time serial : Int) (ps : List S34) (hn : Nums ps) : Ev (fun k => record_Format.f k t time serial ps) (formatR t time serial ps) := by
  unfold record_Format.f formatR
  refine Ev.bind (check_ev t time serial ps) ?_
  by_cases h : checkR t time serial ps = 0
  · rw [if_pos h]
    obtain ⟨h1, h2, h3, h4⟩ := checkR_ok h
    have hz := lineHead_size (t := t) h1 h2
    refine Ev.congr (fun k => by rw [if_pos h, if_pos ⟨⟨h1.1, by omega⟩, ⟨h2.1, by omega⟩⟩]; rfl) (fmtPairs_ev ps _ hn h4 ?_)
    show (lineHead t time serial).size + _ ≤ _
    omega
  · rw [if_neg h]
    exact Ev.congr (fun k => if_neg h) (Ev.now _)

theorem rep0 : Lib.repeatL [48] 0 = [] := rfl
theorem rep1 : Lib.repeatL [48] 1 = [48] := rfl
theorem rep2 : Lib.repeatL [48] 2 = [48, 48] := rfl
theorem three_text (m : Nat) (h : m < 1000) : Lib.repeatL [48] (3 - (Lib.decDigits m).length) ++ Lib.decDigits m = (Lib.decDigits (m / 100) ++ Lib.decDigits (m / 10 % 10)) ++ Lib.decDigits (m % 10) := by
  rw [Lib.decDigits_one (i := m / 100) (by omega), Lib.decDigits_one (i := m / 10 % 10) (by omega), Lib.decDigits_one (i := m % 10) (by omega)]
  by_cases h1 : m < 10
  · rw [Lib.decDigits_one h1, show m / 100 = 0 by omega, show m / 10 % 10 = 0 by omega, show m % 10 = m by omega]
    rfl
  · by_cases h2 : m < 100
    · rw [Lib.decDigits_two h1 h2, show m / 100 = 0 by omega, show m / 10 % 10 = m / 10 by omega]
      rfl
    · have e : Lib.decDigits m = Lib.decDigits (m / 10) ++ [UInt8.ofNat (48 + m % 10)] := by
        conv => lhs; rw [Lib.decDigits]
        rw [dif_neg h1]
      rw [e, Lib.decDigits_two (i := m / 10) (by omega) (by omega), show m / 10 / 10 = m / 100 by omega]
      rfl
theorem three_f {a : Int} (h0 : 0 ≤ a) : kauditref03_three.f (Int.tmod a 1000) = some (head2 a) := by
  have e : Int.tmod a 1000 = a % 1000 := Int.tmod_eq_emod_of_nonneg h0
  obtain ⟨m, hm⟩ : ∃ m : Nat, a % 1000 = (m : Int) := ⟨(a % 1000).toNat, by omega⟩
  have hm1 : m < 1000 := by omega
  unfold kauditref03_three.f head2 msS
  rw [e, hm]
  have e1 : wrap64 (Int.tdiv (m : Int) 100) = ((m / 100 : Nat) : Int) := by rw [Int.tdiv_eq_ediv_of_nonneg (by omega), w64 (by omega) (by omega)]; omega
  have e2 : Int.tmod (wrap64 (Int.tdiv (m : Int) 10)) 10 = ((m / 10 % 10 : Nat) : Int) := by
    rw [Int.tdiv_eq_ediv_of_nonneg (by omega), w64 (by omega) (by omega), Int.tmod_eq_emod_of_nonneg (by omega)]; omega
  have e3 : Int.tmod (m : Int) 10 = ((m % 10 : Nat) : Int) := by rw [Int.tmod_eq_emod_of_nonneg (by omega)]; omega
  rw [e1, e2, e3, decimal_f (by omega) (by omega), decimal_f (by omega) (by omega), decimal_f (by omega) (by omega), itoa_pos (by omega)]
  simp only [Option.bind_some, Int.toNat_natCast]
  have z : ∀ u, u < 10 → (⟨(Lib.decDigits u).toArray⟩ : ByteArray).size = 1 := fun u hu => by rw [Lib.decDigits_one hu]; rfl
  rw [z _ (by omega), z _ (by omega), z _ (by omega), if_pos (by omega), if_pos (by omega)]
  congr 1
  apply ByteArray.ext
  rw [ByteArray.data_append, ByteArray.data_append, ByteArray.data_append]
  apply Array.ext'
  simp only [Array.toList_append]
  exact (three_text m hm1).symm

theorem drop_rd (ps : List S34) (i : Nat) (h : i < ps.length) : ps.drop i = rd_T34 ps (i : Int) :: ps.drop (i + 1) := drop_T34 ps i h
theorem mem_drop34 {ps : List S34} {i : Nat} {x : S34} (h : x ∈ ps.drop i) : x ∈ ps := List.mem_of_mem_drop h

theorem rfmt_l0 {t time serial : Int} {ps : List S34} (hn : Nums ps) (hc : ∀ x ∈ ps, chk x = 0) (hl : ps.length ≤ 24) (d : Nat) : ∀ (i : Nat) (s : ByteArray), i + d = ps.length → s.size ≤ 1000 + i * 2000 →
    Ev (fun k => kauditref03_Format.l0 k s (i : Int) t time serial ps) (textPairs (ps.drop i) s, 0) := by
  induction d with
  | zero =>
    intro i s hi hs
    rw [List.drop_of_length_le (by omega)]
    refine Ev.step (f := fun _ => some (s, 0)) (fun k => ?_) (Ev.now _)
    simp only [kauditref03_Format.l0]
    rw [if_neg (by omega)]
  | succ d ih =>
    intro i s hi hs
    have hm : rd_T34 ps (i : Int) ∈ ps := mem_drop34 (i := i) (by rw [drop_rd ps i (by omega)]; exact List.mem_cons_self ..)
    rw [drop_rd ps i (by omega)]
    generalize hx : rd_T34 ps (i : Int) = x at hm
    have h1 := fmt_ok (hc x hm)
    have hz := fmtV_size x.f0 x.f1 x.f2 x.f3 (hn x hm)
    rw [h1] at hz
    have hz : (fmt34 x).size ≤ 1400 := hz
    refine Ev.step (f := fun k => (kauditref02_Format.f k x.f0 x.f1 x.f2 x.f3).bind fun bt234 => if 1 + bt234.1.size ≤ 9223372036854775807 then (if s.size + 1 + bt234.1.size ≤ 9223372036854775807 then kauditref03_Format.l0 k (s ++ ((⟨#[32]⟩ : ByteArray) ++ bt234.1)) ((i + 1 : Nat) : Int) t time serial ps else none) else none) (fun k => ?_) ?_
    · simp only [kauditref03_Format.l0]
      rw [if_pos (by omega), if_pos (by omega), hx, wsucc (n := ps.length) (by omega) (by omega)]
    · refine Ev.bind (rformat_ev x.f0 x.f1 x.f2 x.f3 (hn x hm)) ?_
      rw [h1]
      refine Ev.congr (fun k => by rw [if_pos (by show 1 + (fmt34 x).size ≤ _; omega), if_pos (by show s.size + 1 + (fmt34 x).size ≤ _; omega)]) (ih (i + 1) _ (by omega) ?_)
      rw [ByteArray.size_append, sp_size]
      show s.size + (1 + (fmt34 x).size) ≤ _
      omega

theorem refformat_ev (t time serial : Int) (ps : List S34) (hn : Nums ps) : Ev (fun k => kauditref03_Format.f k t time serial ps) (formatR t time serial ps) := by
  unfold kauditref03_Format.f formatR
  refine Ev.bind (refcheck_ev t time serial ps) ?_
  by_cases h : checkR t time serial ps = 0
  · rw [if_pos h]
    obtain ⟨h1, h2, h3, h4⟩ := checkR_ok h
    have hz := lineHead_size (t := t) h1 h2
    refine Ev.congr (fun k => if_pos h) (Ev.bind (refName_ev t) ?_)
    have a := typeName_le t
    have e : Int.tdiv time 1000 = time / 1000 := Int.tdiv_eq_ediv_of_nonneg h1.1
    have ew : wrap64 (Int.tdiv time 1000) = Int.tdiv time 1000 := by rw [e, w64 (by omega) (by omega)]
    have b := itoa_le (Int.tdiv time 1000) (by rw [e]; omega) (by rw [e]; omega)
    have c := ms_le h1.1
    have d := itoa_le serial (by omega) (by omega)
    have z2 : (head2 time).size ≤ 6 := by
      unfold head2
      rw [ByteArray.size_append]
      have z : (⟨(Lib.repeatL [48] (3 - (msS time).size)).toArray⟩ : ByteArray).size ≤ 3 := by
        show (Lib.repeatL [48] (3 - (msS time).size)).toArray.size ≤ 3
        rw [List.size_toArray, Lib.repeatL_length]
        simp only [List.length_cons, List.length_nil]
        omega
      omega
    have d1 : kauditref01_Decimal.f (Int.tdiv time 1000) = some ⟨(Lib.itoa (Int.tdiv time 1000)).toArray⟩ := by rw [decimal_f (by rw [e]; omega) (by rw [e]; omega), itoa_pos (by rw [e]; omega)]
    have d2 : kauditref01_Decimal.f serial = some ⟨(Lib.itoa serial).toArray⟩ := by rw [decimal_f (by omega) (by omega), itoa_pos (by omega)]
    have eq : (((((((((⟨#[116, 121, 112, 101, 61]⟩ : ByteArray) ++ typeName t) ++ (⟨#[32, 109, 115, 103, 61, 97, 117, 100, 105, 116, 40]⟩ : ByteArray)) ++ (⟨(Lib.itoa (Int.tdiv time 1000)).toArray⟩ : ByteArray)) ++ (⟨#[46]⟩ : ByteArray)) ++ head2 time) ++ (⟨#[58]⟩ : ByteArray)) ++ (⟨(Lib.itoa serial).toArray⟩ : ByteArray)) ++ (⟨#[41, 58]⟩ : ByteArray)) = lineHead t time serial := by
      unfold lineHead head1 head3
      simp only [app_assoc]
    refine Ev.congr (f := fun k => kauditref03_Format.l0 k (lineHead t time serial) ((0 : Nat) : Int) t time serial ps) (fun k => ?_) (rfmt_l0 hn h4 h3 ps.length 0 (lineHead t time serial) (by omega) (by omega))
    rw [if_pos (by omega), if_pos (by omega), ew, d1]
    simp only [Option.bind_some]
    rw [if_pos (by omega), if_pos (by omega), three_f h1.1]
    simp only [Option.bind_some]
    rw [if_pos (by omega), if_pos (by omega), d2]
    simp only [Option.bind_some]
    rw [if_pos (by omega), if_pos (by omega), eq]
    rfl
  · rw [if_neg h]
    exact Ev.congr (fun k => if_neg h) (Ev.now _)
end Go.Proofs.YtjnlmmjadlidlaaDoor.Pure3
