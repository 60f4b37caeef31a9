/-
  Plain laws of chapter 3: the texts of pairs (Quote, Number, Format, on both sides).
-/
import Derived.Test.YtjnlmmjadlidlaaDoorRPure1
import Derived.Test.YtjnlmmjadlidlaaDoorRE3
namespace Go.Proofs.YtjnlmmjadlidlaaDoor.Pure3
open Go.RowKit Go.Proofs.YtjnlmmjadlidlaaDoor.PRec Go.Proofs.YtjnlmmjadlidlaaDoorW.PrintWords

def I64 (n : Int) : Prop := -9223372036854775808 ≤ n ∧ n ≤ 9223372036854775807

/-- May this byte stand between quotation marks? -/
def safeB (b : Int) : Bool := !(decide (b < 33)) && (!(decide (b > 126)) && !(decide (b = 34)))
def isSafe (s : ByteArray) : Bool := allFrom (fun i => safeB (bt s i)) s.size 0

theorem safe_l0 (s : ByteArray) (hs : s.size ≤ 1000) (d : Nat) : ∀ (k i : Nat), i + d = s.size → d < k → value_safe.l0 k s s.size i = some (allFrom (fun i => safeB (bt s i)) d i) := by
  induction d with
  | zero =>
    intro k i hi hk
    obtain ⟨k, rfl⟩ : ∃ m, k = m + 1 := ⟨k - 1, by omega⟩
    simp only [value_safe.l0]
    rw [if_neg (by omega)]
    rfl
  | succ d ih =>
    intro k i hi hk
    obtain ⟨k, rfl⟩ : ∃ m, k = m + 1 := ⟨k - 1, by omega⟩
    simp only [value_safe.l0, allFrom]
    rw [if_pos (by omega), if_pos (by omega), if_pos (by omega), wsucc (n := s.size) (by omega) (by omega), ih k (i + 1) (by omega) (by omega)]
    generalize allFrom (fun i => safeB (bt s i)) d (i + 1) = q
    generalize bt s i = b
    unfold safeB
    by_cases h1 : b < 33
    · simp [h1]
    · by_cases h2 : b > 126
      · simp [h1, h2]
      · by_cases h3 : b = 34
        · subst h3; simp
        · simp [h1, h2, h3]

theorem safe_ev (s : ByteArray) (hs : s.size ≤ 1000) : Ev (fun k => value_safe.f k s) (isSafe s) :=
  ⟨s.size + 1, fun k hk => safe_l0 s hs s.size k 0 (by omega) (by omega)⟩

theorem refsafe_l0 (s : ByteArray) (hs : s.size ≤ 1000) (d : Nat) : ∀ (k i : Nat), i + d = s.size → d < k → kauditref02_safe.l0 k s i = some (allFrom (fun i => safeB (bt s i)) d i) := by
  induction d with
  | zero =>
    intro k i hi hk
    obtain ⟨k, rfl⟩ : ∃ m, k = m + 1 := ⟨k - 1, by omega⟩
    simp only [kauditref02_safe.l0]
    rw [if_neg (by omega)]
    rfl
  | succ d ih =>
    intro k i hi hk
    obtain ⟨k, rfl⟩ : ∃ m, k = m + 1 := ⟨k - 1, by omega⟩
    simp only [kauditref02_safe.l0, allFrom]
    rw [if_pos (by omega), if_pos (by omega), wsucc (n := s.size) (by omega) (by omega), ih k (i + 1) (by omega) (by omega)]
    generalize allFrom (fun i => safeB (bt s i)) d (i + 1) = q
    generalize bt s i = b
    unfold safeB
    by_cases h1 : b < 33
    · simp [h1]
    · by_cases h2 : b > 126
      · simp [h1, h2]
      · by_cases h3 : b = 34
        · subst h3; simp
        · simp [h1, h2, h3]

theorem refsafe_ev (s : ByteArray) (hs : s.size ≤ 1000) : Ev (fun k => kauditref02_safe.f k s) (isSafe s) :=
  ⟨s.size + 1, fun k hk => refsafe_l0 s hs s.size k 0 (by omega) (by omega)⟩

/-! ### hexadecimal digits -/
def hx (b : Int) : List Int := [rd digitsTab (b / 16), rd digitsTab (b % 16)]
def hexFrom (s : ByteArray) : Nat → Nat → List Int
  | 0, _ => []
  | d + 1, i => hx (bt s i) ++ hexFrom s d (i + 1)
theorem hexFrom_len (s : ByteArray) : ∀ d i, (hexFrom s d i).length = 2 * d
  | 0, _ => rfl
  | d + 1, i => by
    simp only [hexFrom, List.length_append, hexFrom_len s d (i + 1)]
    show 2 + 2 * d = _
    omega
theorem and15n : ∀ b : Nat, b < 256 → Go.bits .and .u8 (b : Int) 15 = (b : Int) % 16 := by decide +kernel
theorem and15 {b : Int} (h0 : 0 ≤ b) (h1 : b ≤ 255) : Go.bits .and .u8 b 15 = b % 16 := by
  have := and15n b.toNat (by omega)
  rwa [show ((b.toNat : Nat) : Int) = b from by omega] at this

theorem vq_l0 (s : ByteArray) (hs : s.size ≤ 1000) (d : Nat) : ∀ (k i : Nat) (acc : List Int), i + d = s.size → d < k → acc.length ≤ 1 + 2 * i → value_Quote.l0 k s acc s.size i = some (strOfNums (acc ++ hexFrom s d i), 0) := by
  induction d with
  | zero =>
    intro k i acc hi hk ha
    obtain ⟨k, rfl⟩ : ∃ m, k = m + 1 := ⟨k - 1, by omega⟩
    simp only [value_Quote.l0, hexFrom]
    rw [if_neg (by omega), List.append_nil]
  | succ d ih =>
    intro k i acc hi hk ha
    obtain ⟨k, rfl⟩ : ∃ m, k = m + 1 := ⟨k - 1, by omega⟩
    obtain ⟨b0, b1⟩ := bt_range s i
    simp only [value_Quote.l0, hexFrom]
    rw [if_pos (by omega), if_pos (by omega), if_pos (by omega), and15 b0 b1, if_pos (by omega), if_pos (by omega), if_pos (by omega), if_pos (by omega)]
    simp only [Option.bind_some]
    rw [if_pos (by simp; omega), wsucc (n := s.size) (by omega) (by omega), ih k (i + 1) _ (by omega) (by omega) (by simp; omega), List.append_assoc]
    rfl

def D16 : ByteArray := ⟨#[48, 49, 50, 51, 52, 53, 54, 55, 56, 57, 97, 98, 99, 100, 101, 102]⟩
theorem dig_data : ∀ i, i < 16 → (D16.extract i (i + 1)).data.toList = (strOfNums [rd digitsTab (i : Int)]).data.toList := by decide
theorem dig_at {i : Nat} (h : i < 16) : D16.extract i (i + 1) = strOfNums [rd digitsTab (i : Int)] := by
  apply ByteArray.ext
  apply Array.ext'
  exact dig_data i h
theorem str_app (xs ys : List Int) : strOfNums (xs ++ ys) = strOfNums xs ++ strOfNums ys := by
  apply ByteArray.ext
  rw [ByteArray.data_append]
  simp [strOfNums]
theorem app_assoc (a b c : ByteArray) : a ++ b ++ c = a ++ (b ++ c) := by
  apply ByteArray.ext
  simp only [ByteArray.data_append, Array.append_assoc]
theorem app_nil (a : ByteArray) : a ++ strOfNums [] = a := by
  apply ByteArray.ext
  rw [ByteArray.data_append]
  simp [strOfNums]

theorem rq_l0 (s : ByteArray) (hs : s.size ≤ 1000) (d : Nat) : ∀ (k i : Nat) (acc : ByteArray), i + d = s.size → d < k → acc.size ≤ 1 + 2 * i → kauditref02_Quote.l0 k s acc i = some (acc ++ strOfNums (hexFrom s d i), 0) := by
  induction d with
  | zero =>
    intro k i acc hi hk ha
    obtain ⟨k, rfl⟩ : ∃ m, k = m + 1 := ⟨k - 1, by omega⟩
    simp only [kauditref02_Quote.l0, hexFrom]
    rw [if_neg (by omega), app_nil]
  | succ d ih =>
    intro k i acc hi hk ha
    obtain ⟨k, rfl⟩ : ∃ m, k = m + 1 := ⟨k - 1, by omega⟩
    obtain ⟨b0, b1⟩ := bt_range s i
    have ex : hx (bt s i) = [rd digitsTab (bt s i / 16)] ++ [rd digitsTab (bt s i % 16)] := rfl
    obtain ⟨h, hh⟩ : ∃ h : Nat, bt s i / 16 = (h : Int) := ⟨(bt s i / 16).toNat, by omega⟩
    obtain ⟨l, hl⟩ : ∃ l : Nat, bt s i % 16 = (l : Int) := ⟨(bt s i % 16).toNat, by omega⟩
    have hh16 : h < 16 := by omega
    have hl16 : l < 16 := by omega
    have eh : ((h : Int) + 1) % 256 = ((h + 1 : Nat) : Int) := by omega
    have el : ((l : Int) + 1) % 256 = ((l + 1 : Nat) : Int) := by omega
    have zh := strOfNums_size [rd digitsTab (h : Int)]
    have zl := strOfNums_size [rd digitsTab (l : Int)]
    simp only [List.length_cons, List.length_nil] at zh zl
    simp only [kauditref02_Quote.l0, hexFrom]
    rw [show (⟨#[48, 49, 50, 51, 52, 53, 54, 55, 56, 57, 97, 98, 99, 100, 101, 102]⟩ : ByteArray) = D16 from rfl, and15 b0 b1, ex, hh, hl, eh, el]
    simp only [Int.toNat_natCast]
    rw [dig_at hh16, dig_at hl16, zh, zl, if_pos (by omega), if_pos (by omega), if_pos (by omega), if_pos (by omega), if_pos (by omega), if_pos (by omega), if_pos (by omega), if_pos (by omega), if_pos (by omega), if_pos (by omega)]
    rw [wsucc (n := s.size) (by omega) (by omega), ih k (i + 1) _ (by omega) (by omega) (by rw [ByteArray.size_append, ByteArray.size_append, zh, zl]; omega)]
    rw [str_app, str_app, app_assoc, app_assoc]

/-- What Quote returns. -/
def quoteS (s : ByteArray) : ByteArray × Int :=
  if (s.size : Int) > 640 then (⟨#[]⟩, 20) else if isSafe s = true then (((⟨#[34]⟩ : ByteArray) ++ s) ++ (⟨#[34]⟩ : ByteArray), 0) else (strOfNums ([120] ++ hexFrom s s.size 0), 0)
theorem vquote_ev (s : ByteArray) : Ev (fun k => value_Quote.f k s) (quoteS s) := by
  unfold value_Quote.f quoteS
  by_cases h : (s.size : Int) > 640
  · rw [if_pos h]; exact Ev.congr (fun k => if_pos h) (Ev.now _)
  · rw [if_neg h]
    refine Ev.congr (fun k => if_neg h) (Ev.bind (safe_ev s (by omega)) ?_)
    by_cases h2 : isSafe s = true
    · rw [if_pos h2]
      exact Ev.congr (fun k => by rw [if_pos h2, if_pos (by omega), if_pos (by omega)]) (Ev.now _)
    · rw [if_neg h2]
      have e : wrap64 (1 + wrap64 (2 * (s.size : Int))) = 1 + 2 * (s.size : Int) := by rw [w64 (x := 2 * (s.size : Int)) (by omega) (by omega), w64 (by omega) (by omega)]
      refine ⟨s.size + 1, fun k hk => ?_⟩
      show (if isSafe s = true then _ else _) = _
      rw [if_neg h2, e, if_pos (by omega), if_pos (by omega)]
      simp only [Option.bind_some, List.nil_append, List.length_nil]
      rw [if_pos (by omega)]
      exact vq_l0 s (by omega) s.size k 0 [120] (by omega) (by omega) (by simp)
theorem rquote_ev (s : ByteArray) : Ev (fun k => kauditref02_Quote.f k s) (quoteS s) := by
  unfold kauditref02_Quote.f quoteS
  by_cases h : (s.size : Int) > 640
  · rw [if_pos h]; exact Ev.congr (fun k => if_pos h) (Ev.now _)
  · rw [if_neg h]
    refine Ev.congr (fun k => if_neg h) (Ev.bind (refsafe_ev s (by omega)) ?_)
    by_cases h2 : isSafe s = true
    · rw [if_pos h2]
      exact Ev.congr (fun k => by rw [if_pos h2, if_pos (by omega), if_pos (by omega)]) (Ev.now _)
    · rw [if_neg h2]
      refine ⟨s.size + 1, fun k hk => ?_⟩
      show (if isSafe s = true then _ else _) = _
      rw [if_neg h2, str_app]
      exact rq_l0 s (by omega) s.size k 0 (⟨#[120]⟩ : ByteArray) (by omega) (by omega) (Nat.le_refl _)
theorem quoteS_size (s : ByteArray) : (quoteS s).1.size ≤ 1281 := by
  unfold quoteS
  by_cases h : (s.size : Int) > 640
  · rw [if_pos h]; exact Nat.zero_le _
  · rw [if_neg h]
    split
    · simp only [ByteArray.size_append]
      show 1 + s.size + 1 ≤ 1281
      omega
    · rw [strOfNums_size, List.length_append, hexFrom_len]
      show 1 + 2 * s.size ≤ 1281
      omega
theorem quoteS_ok {s : ByteArray} (h : ¬ (s.size : Int) > 640) : (quoteS s).2 = 0 := by
  unfold quoteS
  rw [if_neg h]
  split <;> rfl

/-! ### numbers -/
theorem decimal_f {n : Int} (h0 : 0 ≤ n) (h1 : n ≤ 9223372036854775807) : kauditref01_Decimal.f n = some ⟨(Lib.decDigits n.toNat).toArray⟩ := by
  unfold kauditref01_Decimal.f PNames.kauditref01_Decimal.f
  rw [if_pos ⟨h0, h1⟩]
theorem digits_small {u : Nat} (h : u < 10) : Lib.decDigits u = [UInt8.ofNat (48 + u)] := by rw [Lib.decDigits, dif_pos h]
theorem digits_len20 : ∀ (m u : Nat), u < 10 ^ m → (Lib.decDigits u).length ≤ m + 1 := by
  intro m
  induction m with
  | zero => intro u h; rw [digits_small (by omega)]; simp
  | succ m ih =>
    intro u h
    rw [Lib.decDigits]
    split
    · simp
    · have := ih (u / 10) (by rw [Nat.pow_succ] at h; omega)
      simp only [List.length_append, List.length_cons, List.length_nil]
      omega
theorem itoa_neg {n : Int} (h : n < 0) : Lib.itoa n = 45 :: Lib.decDigits n.natAbs := by unfold Lib.itoa; rw [if_pos h]
theorem itoa_pos {n : Int} (h : ¬ n < 0) : Lib.itoa n = Lib.decDigits n.toNat := by unfold Lib.itoa; rw [if_neg h]
theorem number_f (n : Int) (hn : I64 n) : kauditref02_Number.f n = some ⟨(Lib.itoa n).toArray⟩ := by
  unfold kauditref02_Number.f
  by_cases h : n ≥ 0
  · rw [if_pos h, decimal_f h hn.2, itoa_pos (by omega)]; rfl
  · rw [if_neg h, itoa_neg (by omega)]
    by_cases hm : n = -9223372036854775808
    · subst hm
      have e1 : wrap64 (-(-9223372036854775808)) = -9223372036854775808 := by decide +kernel
      have e2 : wrap64 (-(wrap64 (Int.tdiv (-9223372036854775808) 10))) = 922337203685477580 := by decide +kernel
      have e3 : wrap64 (-(Int.tmod (-9223372036854775808) 10)) = 8 := by decide +kernel
      have l1 := digits_len20 18 922337203685477580 (by decide)
      rw [e1, if_pos (by decide), e2, decimal_f (by decide) (by decide)]
      simp only [Option.bind_some]
      rw [e3, decimal_f (by decide) (by decide)]
      simp only [Option.bind_some]
      have z1 : (⟨(Lib.decDigits (922337203685477580 : Int).toNat).toArray⟩ : ByteArray).size ≤ 19 := by simpa [ByteArray.size] using l1
      have z2 : (⟨(Lib.decDigits (8 : Int).toNat).toArray⟩ : ByteArray).size = 1 := by
        show (Lib.decDigits (8 : Int).toNat).toArray.size = 1
        rw [show (8 : Int).toNat = 8 from rfl, digits_small (by omega)]
        rfl
      rw [if_pos (by omega), z2, if_pos (by omega)]
      have hd : Lib.decDigits (-9223372036854775808 : Int).natAbs = Lib.decDigits 922337203685477580 ++ [56] := by
        have q1 : (9223372036854775808 : Nat) / 10 = 922337203685477580 := by decide +kernel
        have q2 : (9223372036854775808 : Nat) % 10 = 8 := by decide +kernel
        rw [show (-9223372036854775808 : Int).natAbs = 9223372036854775808 from rfl, Lib.decDigits, dif_neg (by omega), q1, q2]
        rfl
      rw [hd]
      congr 1
      apply ByteArray.ext
      rw [ByteArray.data_append, ByteArray.data_append]
      show (#[45] ++ (Lib.decDigits (922337203685477580 : Int).toNat).toArray) ++ (Lib.decDigits (8 : Int).toNat).toArray = _
      rw [show (8 : Int).toNat = 8 from rfl, digits_small (u := 8) (by omega), show (922337203685477580 : Int).toNat = 922337203685477580 from rfl]
      apply Array.ext'
      simp
    · have hb : n > -9223372036854775808 := by have := hn.1; omega
      have e1 : wrap64 (-n) = -n := w64 (by omega) (by omega)
      rw [e1, if_neg (by omega), decimal_f (by omega) (by omega)]
      simp only [Option.bind_some]
      have l1 := digits_len20 19 (-n).toNat (by omega)
      have z1 : (⟨(Lib.decDigits (-n).toNat).toArray⟩ : ByteArray).size ≤ 20 := by simpa [ByteArray.size] using l1
      rw [if_pos (by omega), show n.natAbs = (-n).toNat by omega]
      congr 1

/-! ### pairs -/
def textV (kind num : Int) (text : ByteArray) : ByteArray := if kind = 1 then ⟨(Lib.itoa num).toArray⟩ else if kind = 2 then (quoteS text).1 else ⟨#[40, 110, 117, 108, 108, 41]⟩
def fmtV (name : ByteArray) (kind num : Int) (text : ByteArray) : ByteArray × Int :=
  if checkV name kind num text = 0 then ((name ++ (⟨#[61]⟩ : ByteArray)) ++ textV kind num text, 0) else (⟨#[]⟩, checkV name kind num text)
theorem check_name {name : ByteArray} {kind num : Int} {text : ByteArray} (h : checkV name kind num text = 0) : name.size ≤ 16 ∧ ¬ (text.size : Int) > 640 ∧ (kind = 1 ∨ kind = 2 ∨ kind = 3) := by
  unfold checkV at h
  by_cases h1 : isName name = true
  · rw [if_pos h1] at h
    by_cases h2 : badB kind num text = true
    · rw [if_pos h2] at h; cases h
    · rw [if_neg h2] at h
      by_cases h3 : (text.size : Int) > 640
      · rw [if_pos h3] at h; cases h
      · refine ⟨?_, h3, ?_⟩
        · unfold isName at h1
          simp only [Bool.and_eq_true, decide_eq_true_eq] at h1
          exact h1.2.1
        · have h4 : badB kind num text = false := by simpa using h2
          unfold badB at h4
          simp only [Bool.not_eq_false', Bool.and_eq_true, Bool.or_eq_true, decide_eq_true_eq] at h4
          omega
  · rw [if_neg h1] at h; cases h

theorem vformat_ev (name : ByteArray) (kind num : Int) (text : ByteArray) (hn : I64 num) : Ev (fun k => value_Format.f k name kind num text) (fmtV name kind num text) := by
  unfold value_Format.f fmtV
  refine Ev.bind (vcheck_ev name kind num text) ?_
  by_cases h : checkV name kind num text = 0
  · rw [if_pos h]
    obtain ⟨hs, ht, hk⟩ := check_name h
    refine Ev.congr (fun k => if_pos h) ?_
    unfold textV
    by_cases h1 : kind = 1
    · have hl := itoa_le num hn.1 hn.2
      refine Ev.congr (fun k => ?_) (Ev.now _)
      rw [if_pos h1, if_pos h1]
      unfold strconv_Itoa.f
      rw [if_pos ⟨hn.1, hn.2⟩]
      simp only [Option.bind_some]
      rw [if_pos (by omega), if_pos (by omega)]
    · rw [if_neg h1]
      by_cases h2 : kind = 2
      · have hl := quoteS_size text
        have ho := quoteS_ok ht
        rw [if_pos h2]
        refine Ev.congr (fun k => by rw [if_neg h1, if_pos h2]) (Ev.bind (vquote_ev text) ?_)
        exact Ev.congr (fun k => by rw [if_pos ho, if_pos (by omega), if_pos (by omega)]) (Ev.now _)
      · rw [if_neg h2]
        exact Ev.congr (fun k => by rw [if_neg h1, if_neg h2, if_pos (by omega), if_pos (by omega)]) (Ev.now _)
  · rw [if_neg h]
    exact Ev.congr (fun k => if_neg h) (Ev.now _)
theorem app_lit (name : ByteArray) : name ++ (⟨#[61, 40, 110, 117, 108, 108, 41]⟩ : ByteArray) = (name ++ (⟨#[61]⟩ : ByteArray)) ++ (⟨#[40, 110, 117, 108, 108, 41]⟩ : ByteArray) := by
  rw [app_assoc]
  rfl
theorem rformat_ev (name : ByteArray) (kind num : Int) (text : ByteArray) (hn : I64 num) : Ev (fun k => kauditref02_Format.f k name kind num text) (fmtV name kind num text) := by
  unfold kauditref02_Format.f fmtV
  refine Ev.bind (rcheck_ev name kind num text) ?_
  by_cases h : checkV name kind num text = 0
  · rw [if_pos h]
    obtain ⟨hs, ht, hk⟩ := check_name h
    refine Ev.congr (fun k => if_pos h) ?_
    unfold textV
    by_cases h1 : kind = 1
    · have hl := itoa_le num hn.1 hn.2
      refine Ev.congr (fun k => ?_) (Ev.now _)
      rw [if_pos h1, if_pos h1, if_pos (by omega), number_f num hn]
      simp only [Option.bind_some]
      rw [if_pos (by omega)]
    · rw [if_neg h1]
      by_cases h2 : kind = 2
      · have hl := quoteS_size text
        have ho := quoteS_ok ht
        rw [if_pos h2]
        refine Ev.congr (fun k => by rw [if_neg h1, if_pos h2]) (Ev.bind (rquote_ev text) ?_)
        exact Ev.congr (fun k => by rw [if_pos (by omega), if_pos (by omega), ho]) (Ev.now _)
      · rw [if_neg h2, ← app_lit]
        exact Ev.congr (fun k => by rw [if_neg h1, if_neg h2, if_pos (by omega)]) (Ev.now _)
  · rw [if_neg h]
    exact Ev.congr (fun k => if_neg h) (Ev.now _)
theorem fmtV_size (name : ByteArray) (kind num : Int) (text : ByteArray) (hn : I64 num) : (fmtV name kind num text).1.size ≤ 1400 := by
  unfold fmtV
  by_cases h : checkV name kind num text = 0
  · rw [if_pos h]
    obtain ⟨hs, ht, hk⟩ := check_name h
    simp only [ByteArray.size_append]
    have h1 : (textV kind num text).size ≤ 1300 := by
      unfold textV
      split
      · have := itoa_le num hn.1 hn.2; omega
      · split
        · have := quoteS_size text; omega
        · show 6 ≤ 1300; omega
    show name.size + 1 + _ ≤ 1400
    omega
  · rw [if_neg h]; exact Nat.zero_le _
end Go.Proofs.YtjnlmmjadlidlaaDoor.Pure3
